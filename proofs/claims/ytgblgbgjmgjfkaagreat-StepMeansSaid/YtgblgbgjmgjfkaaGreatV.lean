/- Part of a proof. -/
import Derived.Test.YtgblgbgjmgjfkaaGreatT

open List renaming eq_nil_of_length_eq_zero->ad8,drop_length->aep,getElem_mem->acH,length_map->aes,mem_map_of_mem->al5
set_option maxRecDepth 100000
set_option maxHeartbeats 8000000
namespace R9
open Ax Go aO V7 iQ iZ K9
variable {pre:aj}
theorem gh{s:Sm}:bf (bG s.es)=true/\bf (bZ s.bd)=true/\bf (bZ s.el)=true:=⟨ck,cQ,cQ⟩
theorem YC(c:CK)(s:Sm)(g:Nat)(H:s.es.length<1000000000)(h:fy c.sg.bR s.k s.es=false) :
  (aZ S).call 0 g 134 [.ptr pre.length 0 0 0,.agg s.aI] (pre++[c.bO])=some (.agg [.int .i64 s.k,.str [],.str [],.int .i64 0,.aF,.aF,.aF,.int .i64 s.a,.int .i64 0],pre++[(c.fail s.a).bO]):=by
 have y:=λg=>Co (pre:=pre) g c s [] H;have D:=λg=>kJ (pre:=pre) g c s.a [];rw[h]at y;obtain⟨E,B,l⟩:=gh (s:=s);have q:(bG s.es).ai=bG s.es:=bY;have j:(bZ s.bd).ai=bZ s.bd:=bQ;have p:(bZ s.el).ai=bZ s.el:=bQ;rw[Sm.aQ]at *;generalize bG s.es=K,bZ s.bd=O,bZ s.el=Z,(c.fail s.a).bO=m,c.bO=o at *;refine aG (sf:=iY) rfl rfl rfl ?_;simp[-aE,-ax,iY,y,D,E,B,l,q,j,p,ay,AV.ai]
theorem Mz(c:CK)(s:Sm)(ah:Nat)(w:ED c)(v:s.es.length<1000000000)(h:fy c.sg.bR s.k s.es=true)(X:rH c.H s.k s.on s.od=none) :
  (aZ S).call 0 ah 134 [.ptr pre.length 0 0 0,.agg s.aI] (pre++[c.bO])=some (.agg [.int .i64 s.k,.str [],.str [],.int .i64 0,.aF,.aF,.aF,.int .i64 s.a,.int .i64 0],pre++[(c.fail s.a).bO]):=by
 have y:=λah=>Co (pre:=pre) ah c s [] v;have D:=λah=>kJ (pre:=pre) ah c s.a [];rw[h]at y;obtain⟨E,B,L⟩:=gh (s:=s);have q:(bG s.es).ai=bG s.es:=bY;have m:(bZ s.bd).ai=bZ s.bd:=bQ;have n:(bZ s.el).ai=bZ s.el:=bQ;have l:=λwl ah st=>Ox wl ah c.H.rs s.on s.od st w.R;have p:=λwl ah bx=>alI (pre:=pre) (wl:=wl) (ah:=ah) (c:=c) (r:=[]) (bx:=bx);rw[Sm.aQ]at *;generalize bG s.es=K,bZ s.bd=O,bZ s.el=Z,(c.fail s.a).bO=x,c.bO=o at *;unfold rH at X;by_cases j:s.k=1;rw[af (.inl j)]at X;have g:(dw c.H.rs s.on s.od).2=false:=by
  cases M:(dw c.H.rs s.on s.od).2 with
  |false=>rfl|true=>rw[M]at X;cases X
 unfold tyV at l;rw[g]at l;refine aG (sf:=iY) rfl rfl rfl ?_;have j:(s.k=1)=True:=eq_true j;simp[-aE,-ax,iY,y,D,j,p,l,E,B,L,q,m,n,dX,di,ay,AV.ai];by_cases g:s.k=2;rw[af (.inr g)]at X;have t:(dw c.H.rs s.on s.od).2=false:=by
  cases M:(dw c.H.rs s.on s.od).2 with
  |false=>rfl|true=>rw[M]at X;cases X
 unfold tyV at l;rw[t]at l;refine aG (sf:=iY) rfl rfl rfl ?_;have g:(s.k=2)=True:=eq_true g;simp[-aE,-ax,iY,y,D,j,g,p,l,E,B,L,q,m,n,dX,di,ay,AV.ai];rw[U (by omega)]at X;cases X
def js:aT:=jG (jG (jG (jG (jG (jG (jG iY.body))))))
variable{Q:Ex->St->Prop}
theorem YE(c:CK)(s:Sm)(ah:Nat)(t:T3)(z:ED c)(x:s.es.length<1000000000)(h:fy c.sg.bR s.k s.es=true)(m:s.k=1\/s.k=2)(X:rH c.H s.k s.on s.od=some t)
  (go:W S 0 (pre.length+1) iY.results Q [.code (.loop qT),.kC 0,.code js] .normal
   ⟨[(0,.val (.ptr pre.length 0 0 0)),(3,.fp 0 0),(4,.fp 1 0),(5,.fp 2 0),(6,.fp 3 0),(7,.val (.bool true)),(10,.val (.int .i64 0))],[s.aI,Z9,[.int .i64 s.k,.str [],.str s.on,.int .i64 s.od,.aF,.aF,.aF,.int .i64 s.a,.int .i64 0],t.cells,t.cells,[]],pre++[c.bO]⟩) :
  W S (iY.mode.AJ (pre++[c.bO]).length 0) (iY.mode.tf (pre++[c.bO]).length ah) iY.results Q [.code iY.body] .normal (uG iY [.ptr pre.length 0 0 0,.agg s.aI] (pre++[c.bO])):=by
 have y:=λah=>Co (pre:=pre) ah c s [] x;rw[h]at y;obtain⟨E,B,L⟩:=gh (s:=s);have q:(bG s.es).ai=bG s.es:=bY;have j:(bZ s.bd).ai=bZ s.bd:=bQ;have n:(bZ s.el).ai=bZ s.el:=bQ;have l:=λwl ah st=>Ox wl ah c.H.rs s.on s.od st z.R;have p:=λwl ah bx=>alI (pre:=pre) (wl:=wl) (ah:=ah) (c:=c) (r:=[]) (bx:=bx);rw[Sm.aQ]at *;generalize bG s.es=K,bZ s.bd=O,bZ s.el=Z,c.bO=o at *;unfold rH at X;rw[af m]at X;split at X;rename_i w;cases X;unfold tyV at l;rw[w]at l;generalize (dw c.H.rs s.on s.od).1=t at *;rcases m with g|g;have g:(s.k=1)=True:=eq_true g;simp[-aE,-ax,iY,y,g,p,l,E,B,L,q,j,n,dX,di,ay,AV.ai];exact go;have v:¬s.k=1:=by omega
 have g:(s.k=2)=True:=eq_true g;simp[-aE,-ax,iY,y,v,g,p,l,E,B,L,q,j,n,dX,di,ay,AV.ai];exact go;cases X
theorem MA(c:CK)(s:Sm)(g:Nat)(n:s.es.length<1000000000)(h:fy c.sg.bR s.k s.es=true)(j:¬(s.k=1\/s.k=2))
  (go:W S 0 (pre.length+1) iY.results Q [.code (.loop qT),.kC 0,.code js] .normal
   ⟨[(0,.val (.ptr pre.length 0 0 0)),(3,.fp 0 0),(4,.fp 1 0),(5,.fp 2 0),(6,.fp 3 0),(7,.val (.bool false)),(10,.val (.int .i64 0))],[s.aI,Z9,[.int .i64 s.k,.str [],.str [],.int .i64 0,.aF,.aF,.aF,.int .i64 s.a,.int .i64 0],T0.cells,[],[]],pre++[c.bO]⟩) :
  W S (iY.mode.AJ (pre++[c.bO]).length 0) (iY.mode.tf (pre++[c.bO]).length g) iY.results Q [.code iY.body] .normal (uG iY [.ptr pre.length 0 0 0,.agg s.aI] (pre++[c.bO])):=by
 have y:=λg=>Co (pre:=pre) g c s [] n;rw[h]at y;obtain⟨E,B,L⟩:=gh (s:=s);have q:(bG s.es).ai=bG s.es:=bY;have l:(bZ s.bd).ai=bZ s.bd:=bQ;have p:(bZ s.el).ai=bZ s.el:=bQ;rw[Sm.aQ]at *;generalize bG s.es=K,bZ s.bd=O,bZ s.el=Z,c.bO=o at *;have H:¬s.k=1:=λe=>j (.inl e);have m:¬s.k=2:=λe=>j (.inr e);simp[-aE,-ax,iY,y,H,m,E,B,L,q,l,p,ay,AV.ai];exact go
end R9
namespace R9
open Ax Go aO V7 iQ iZ K9
variable {pre:aj}
def Kz(H:Hd)(bR:Bool)(res:T3)(V:List Vd)(s:Sm)(y:List E)(t:T3):Except Int (Sm×List Vd):=match pA H res V s.k s.nm y t with
 |none=>.error s.a|some (r,W)=>if s.k=5 then
   match nN H bR res W s.bd with
   |.error x=>.error x|.ok (b,w)=>match nN H bR res w s.el with
    |.error x=>.error x|.ok (c,g)=>.ok (.mk s.k (nj s.k s.nm) (eS s.k s.on) (eU s.k s.od) y b c s.a r,g)
  else if s.k=6 then
   match nN H bR res W s.bd with
   |.error x=>.error x|.ok (b,w)=>.ok (.mk s.k (nj s.k s.nm) (eS s.k s.on) (eU s.k s.od) y b [] s.a r,w)
  else .ok (.mk s.k (nj s.k s.nm) (eS s.k s.on) (eU s.k s.od) y [] [] s.a r,W)
def TQ(pre:aj)(Q:Ex->St->Prop)(s:Sm)(ev:AV)(o:dJ)(D:Bool)(T:List UInt8)(t:Int)(n z:List AV):Prop:=
 W S 0 (pre.length+1) iY.results Q [.code js] .normal
  ⟨[(0,.val (.ptr pre.length 0 0 0)),(3,.fp 0 0),(4,.fp 1 0),(5,.fp 2 0),(6,.fp 3 0),(7,.val (.bool D))],[s.aI,Z9,[.int .i64 s.k,.str [],.str T,.int .i64 t,ev,.aF,.aF,.int .i64 s.a,.int .i64 0],n,z,[]],pre++[o]⟩
def TG(pre:aj)(c:CK)(s:Sm)(ev:AV)(o:dJ)(D:Bool)(T:List UInt8)(t:Int)(n z:List AV)(v:AV)(st:aj):Prop:=TQ pre (HH iY.results .mH (pre++[c.bO]) (v,st)) s ev o D T t n z
theorem Ua(c:CK)(s:Sm)(a:Int)(ev:AV)(D:Bool)(T:List UInt8)(t:Int)(n z:List AV)(p:bf ev=true) :
  TG pre c s ev (c.fail a).bO D T t n z (.agg [.int .i64 s.k,.str [],.str T,.int .i64 t,ev.ai,.aF,.aF,.int .i64 s.a,.int .i64 0]) (pre++[(c.fail a).bO]):=by
 unfold TG TQ;have F:=uY (c:=c) (a:=a);have w:=λg=>iS (pre:=pre) g (c.fail a) [];rw[eX F]at w;generalize (c.fail a).bO=q at *;have h:bf ev.ai=true:=by rw[vq];exact p
 have H:ev.ai.ai=ev.ai:=vr ev;generalize s.aI=j at *;simp[-aE,-ax,js,jG,iY,w,h,ay,AV.ai]
theorem sY(c:CK)(s:Sm)(z:c.fe=0)(J:F3 c)(eO:c.V.length+Sm.sz s<1000000000)(h:fy c.sg.bR s.k s.es=true)(t:T3)(X:rH c.H s.k s.on s.od=some t)
  (m:∀Y,As c.H c.V s.k s.es=.ok Y->match Kz c.H c.sg.bR c.sg.res c.V s Y t with
   |.ok (y,W)=>TG pre c s (cq 11 (E.rows Y)) c.bO (decide (s.k=1\/s.k=2)) (eS s.k s.on) (eU s.k s.od) (if s.k=1\/s.k=2 then t.cells else T0.cells) (if s.k=1\/s.k=2 then t.cells else []) (.agg y.aI) (pre++[(c.cy W).bO])|.error a=>∃W o,Oc o/\TG pre c s (cq 11 (E.rows Y)) c.bO (decide (s.k=1\/s.k=2)) (eS s.k s.on) (eU s.k s.od) (if s.k=1\/s.k=2 then t.cells else T0.cells) (if s.k=1\/s.k=2 then t.cells else []) (.agg o) (pre++[((c.cy W).fail a).bO])):HO pre c s:=by
 have g:=Sm.wz s;have Z:=E.lF s.es;have M:∀x∈s.es,OkX pre c x:=λx hx=>mS c z J x (by have:=E.ri hx;omega);have l8:c.cy c.V=c:=rfl;have B:Au c.H c.sg.bR c.sg.res c.V s=match As c.H c.V s.k s.es with
   |.error x=>.error x|.ok Y=>Kz c.H c.sg.bR c.sg.res c.V s Y t:=by rw[Kc,af h,X];rfl
 unfold HO;rw[B];have key:∀ah (Q:Ex->St->Prop),(∀Y,As c.H c.V s.k s.es=.ok Y->TQ pre Q s (cq 11 (E.rows Y)) c.bO (decide (s.k=1\/s.k=2)) (eS s.k s.on) (eU s.k s.od) (if s.k=1\/s.k=2 then t.cells else T0.cells) (if s.k=1\/s.k=2 then t.cells else []))->
   (∀a ev,bf ev=true->As c.H c.V s.k s.es=.error a->TQ pre Q s ev (c.fail a).bO (decide (s.k=1\/s.k=2)) (eS s.k s.on) (eU s.k s.od) (if s.k=1\/s.k=2 then t.cells else T0.cells) (if s.k=1\/s.k=2 then t.cells else []))->
   W S (iY.mode.AJ (pre++[c.bO]).length 0) (iY.mode.tf (pre++[c.bO]).length ah) iY.results Q [.code iY.body] .normal (uG iY [.ptr pre.length 0 0 0,.agg s.aI] (pre++[c.bO])):=by
  intro ah Q G n;unfold TQ at G n;by_cases l:s.k=1\/s.k=2;have p:s.k≠9:=by omega
  have j:As c.H c.V s.k s.es=rF c.H c.V s.es:=U p;have K:eS s.k s.on=s.on:=af l;have D:eU s.k s.od=s.od:=af l;simp only[af l,cz l,K,D,j]at G n;exact YE c s ah t J.s (by omega) h l X (Wf c s z (by omega) p M _ _ _ _ _ _ _ _ _ _ _ _ _ rfl G n);have K:eS s.k s.on=[]:=U l;have D:eU s.k s.od=0:=U l;simp only[U l,eX l,K,D]at G n;by_cases p:s.k=9;obtain⟨e,q⟩:∃e,s.es=[e]:=by
   rw[p]at h;unfold fy at h;rw[U (by decide),U (by decide),U (by decide),af rfl]at h;match hh:s.es,h with
   |[e],_=>exact⟨e,rfl⟩
  have j:As c.H c.V s.k s.es=match xX c.H c.V e with
    |.error x=>.error x|.ok y=>.ok [y]:=by unfold As;rw[af p,q];rfl
  rw[j]at G n;exact MA c s ah (by omega) h l (agR c s e z p q (M e (by rw[q];exact List.mem_cons_self)) _ _ _ _ _ _ _ _ _ _ _ _ _ rfl
   (λy C=>G [y] (by rw[C])) (λa ev L C=>n a ev L (by rw[C])))
  have j:As c.H c.V s.k s.es=rF c.H c.V s.es:=U p;rw[j]at G n;exact MA c s ah (by omega) h l (Wf c s z (by omega) p M _ _ _ _ _ _ _ _ _ _ _ _ _ rfl G n)
 cases r:As c.H c.V s.k s.es with
 |error a=>
  simp only;intro ah;obtain⟨v,w,N,o,O,P,R⟩:∃v w,(aZ S).call 0 ah 134 [.ptr pre.length 0 0 0,.agg s.aI] (pre++[c.bO])=some (v,w)/\∃o,Oc o/\v=.agg o/\w=pre++[(c.fail a).bO]:=by
   refine jL (sf:=iY) rfl rfl rfl (key ah _ (λY g=>by rw[r]at g;cases g) λa' ev L g=>?_);rw[r]at g;cases g;have I:=Ua (pre:=pre) c s a ev (decide (s.k=1\/s.k=2)) (eS s.k s.on) (eU s.k s.od) (if s.k=1\/s.k=2 then t.cells else T0.cells) (if s.k=1\/s.k=2 then t.cells else []) L;unfold TG TQ at I;unfold TQ;obtain⟨x',s',G,n⟩:=I;exact⟨x',s',G,_,n,_,⟨_,_,_,_,_,_,_,_,_,rfl,by rw[vq];exact L,rfl,rfl⟩,rfl,rfl⟩
  subst P R;exact⟨c.V,o,O,N⟩
 |ok Y=>
  simp only;have m:=m Y r;cases F:Kz c.H c.sg.bR c.sg.res c.V s Y t with
  |ok x=>
   obtain⟨y,W⟩:=x;rw[F]at m;simp only at m ⊢;intro ah;exact aG (sf:=iY) rfl rfl rfl (key ah _ (λzs g=>by rw[r]at g;cases g;exact m) λa ev _ g=>by rw[r]at g;cases g)
  |error a=>
   rw[F]at m;simp only at m ⊢;intro ah;obtain⟨W,o,T,m⟩:=m;exact⟨W,o,T,aG (sf:=iY) rfl rfl rfl (key ah _ (λzs g=>by rw[r]at g;cases g;exact m) λa ev _ g=>by rw[r]at g;cases g)⟩
end R9
namespace R9
open Ax Go aO V7 iQ iZ K9
variable {pre:aj}
variable{V:List Vd}
theorem Cp{g Y:List E}{H:Hd}(h:g.length=1)(j:rF H V g=.ok Y):∃y,Y=[y]:=by
 have:=nH j;match Y,this with
 |[y],_=>exact⟨y,rfl⟩|[],p=>simp at p;omega|_::_::_,p=>simp at p;omega
theorem agS{g Y:List E}{H:Hd}(h:g.length=2)(j:rF H V g=.ok Y):∃y z,Y=[y,z]:=by
 have:=nH j;match Y,this with
 |[y,z],_=>exact⟨y,z,rfl⟩|[],p=>simp at p;omega|[_],p=>simp at p;omega|_::_::_::_,p=>simp at p;omega
theorem pT(k:Int)(N O:List UInt8)(o:Int)(g:List E)(B l:List Sm)(a ref:Int):(Sm.mk k N O o g B l a ref).aI=[.int .i64 k,.str N,.str O,.int .i64 o,bG g,bZ B,bZ l,.int .i64 a,.int .i64 ref]:=Sm.aQ _
theorem u5:bZ []=.aF:=rfl
theorem alN(c:CK)(s:Sm)(l:c.fe=0)(n:F3 c)(K:c.V.length+Sm.sz s<1000000000)(j:s.k=8)(h:fy c.sg.bR s.k s.es=true):HO pre c s:=by
 refine sY c s l n K h T0 (by rw[j];rfl) λys L=>?_;have C:As c.H c.V s.k s.es=rF c.H c.V s.es:=U (by omega);rw[C]at L;rw[j]at h;obtain⟨y,rfl⟩:=Cp (by simpa [fy] using h) L;have m:=λah=>iS (pre:=pre) ah c [];rw[cz l]at m;have g:=λwl ah st=>rA wl ah st;have Q:=λwl ah st=>ot wl ah st;have D:=λah=>kJ (pre:=pre) ah c s.a [];have S:=λah=>lK (pre:=pre) ah c s.nm [] n.s;have F:=λwl ah bx=>EM (pre:=pre) (wl:=wl) (ah:=ah) (c:=c) (r:=[]) (bx:=bx);have G:=λwl ah bx=>Ho (pre:=pre) (wl:=wl) (ah:=ah) (c:=c) (r:=[]) (bx:=bx);obtain⟨P,I,T⟩:=gh (s:=s);have J:(bZ s.bd).ai=bZ s.bd:=bQ;have W:(bZ s.el).ai=bZ s.el:=bQ;have m1:bf (cq 11 (E.rows [y]))=true:=dM;have N:(cq 11 (E.rows [y])).ai=bG [y]:=rfl;have B:aY (cq 11 (E.rows [y]))=[y.aI]:=rfl;have m4:cN 11 (cq 11 (E.rows [y]))=true:=by simp[E.rows,cr,E.aQ]
 have v1:bf (bG [y])=true:=ck;have v2:(bG [y]).ai=bG [y]:=bY;have v:aY (bG [y])=[y.aI]:=rfl;have v4:cN 11 (bG [y])=true:=nC;have X:c.cy c.V=c:=rfl;have p:(decide ((8:Int)=1\/(8:Int)=2))=false:=by decide
 have R:¬((8:Int)=1\/(8:Int)=2):=by decide
 have t:eS 8 s.on=[]:=rfl;have w:eU 8 s.od=0:=rfl;have z:Kz c.H c.sg.bR c.sg.res c.V s [y] T0=if y.ty=tI then .ok (.mk 8 [] [] 0 [y] [] [] s.a 0,c.V) else .error s.a:=by
  unfold Kz pA;simp only[j];by_cases q:y.ty=tI;simp[Ce,q,nj,eS,eU];simp[Ce,q]
 rw[z,j];rw[t,w,p,U R,U R];rw[E.aQ y]at B v;by_cases q:y.ty=tI;rw[af q];simp only;unfold TG TQ;rw[pT,Sm.aQ s,j,X,u5];generalize cq 11 (E.rows [y])=M,bG [y]=Y,bG s.es=x,bZ s.bd=O,bZ s.el=Z,c.bO=o at *;simp[-aE,-ax,cT,js,jG,iY,m,g,q,N,v1,v,v4,aD,aC,ay,AV.ai];rw[U q];simp only;refine⟨c.V,[.int .i64 8,.str [],.str [],.int .i64 0,bG [y],.aF,.aF,.int .i64 s.a,.int .i64 0],⟨_,_,_,_,_,_,_,_,_,rfl,v1,rfl,rfl⟩,?_⟩;unfold TG TQ;rw[Sm.aQ s,j,X];generalize cq 11 (E.rows [y])=M,bG [y]=Y,bG s.es=x,bZ s.bd=O,bZ s.el=Z,(c.fail s.a).bO=o2,c.bO=o at *;simp[-aE,-ax,cT,js,jG,iY,m,g,K9.dI,q,D,N,v1,v,v4,aD,aC,ay,AV.ai]
theorem alO(c:CK)(s:Sm)(g:c.fe=0)(l:F3 c)(K:c.V.length+Sm.sz s<1000000000)(j:s.k=4)(h:fy c.sg.bR s.k s.es=true):HO pre c s:=by
 refine sY c s g l K h T0 (by rw[j];rfl) λys L=>?_;have C:As c.H c.V s.k s.es=rF c.H c.V s.es:=U (by omega);rw[C]at L;rw[j]at h;obtain⟨y,z,rfl⟩:=agS (by
  unfold fy at h;rw[U (by decide),af rfl]at h;match W:s.es,h with
  |[_,_],_=>rfl) L
 have m:=λah=>iS (pre:=pre) ah c [];rw[cz g]at m;have Q:=λwl ah st=>rA wl ah st;have S:=λwl ah st=>ot wl ah st;have D:=λah=>kJ (pre:=pre) ah c s.a [];have T:=λah=>lK (pre:=pre) ah c s.nm [] l.s;have F:=λwl ah bx=>EM (pre:=pre) (wl:=wl) (ah:=ah) (c:=c) (r:=[]) (bx:=bx);have G:=λwl ah bx=>Ho (pre:=pre) (wl:=wl) (ah:=ah) (c:=c) (r:=[]) (bx:=bx);obtain⟨P,I,l1⟩:=gh (s:=s);have J:(bZ s.bd).ai=bZ s.bd:=bQ;have l2:(bZ s.el).ai=bZ s.el:=bQ;have m1:bf (cq 11 (E.rows [y,z]))=true:=dM;have N:(cq 11 (E.rows [y,z])).ai=bG [y,z]:=rfl;have B:aY (cq 11 (E.rows [y,z]))=[y.aI,z.aI]:=rfl;have m4:cN 11 (cq 11 (E.rows [y,z]))=true:=by simp[E.rows,cr,E.aQ]
 have v1:bf (bG [y,z])=true:=ck;have v2:(bG [y,z]).ai=bG [y,z]:=bY;have v:aY (bG [y,z])=[y.aI,z.aI]:=rfl;have v4:cN 11 (bG [y,z])=true:=nC;have X:c.cy c.V=c:=rfl;have p:(decide ((4:Int)=1\/(4:Int)=2))=false:=by decide
 have R:¬((4:Int)=1\/(4:Int)=2):=by decide
 have t:eS 4 s.on=[]:=rfl;have w:eU 4 s.od=0:=rfl;have n:Kz c.H c.sg.bR c.sg.res c.V s [y,z] T0=if y.ty=z.ty then .ok (.mk 4 [] [] 0 [y,z] [] [] s.a 0,c.V) else .error s.a:=by
  unfold Kz pA;simp only[j];by_cases q:y.ty=z.ty;simp[Ce,J9,q,nj,eS,eU];simp[Ce,J9,q]
 rw[n,j];rw[t,w,p,U R,U R];rw[E.aQ y,E.aQ z]at B v;by_cases q:y.ty=z.ty;rw[af q];have q:(y.ty=z.ty)=True:=eq_true q;simp only;unfold TG TQ;rw[pT,Sm.aQ s,j,X,u5];generalize cq 11 (E.rows [y,z])=M,bG [y,z]=Y,bG s.es=x,bZ s.bd=O,bZ s.el=Z,c.bO=o at *;simp[-aE,-ax,cT,js,jG,iY,m,dU,q,N,v1,v,v4,aD,aC,ay,AV.ai];rw[U q];simp only;refine⟨c.V,[.int .i64 4,.str [],.str [],.int .i64 0,bG [y,z],.aF,.aF,.int .i64 s.a,.int .i64 0],⟨_,_,_,_,_,_,_,_,_,rfl,v1,rfl,rfl⟩,?_⟩;unfold TG TQ;rw[Sm.aQ s,j,X];generalize cq 11 (E.rows [y,z])=M,bG [y,z]=Y,bG s.es=x,bZ s.bd=O,bZ s.el=Z,(c.fail s.a).bO=o2,c.bO=o at *;simp[-aE,-ax,cT,js,jG,iY,m,dU,q,D,N,v1,v,v4,aD,aC,ay,AV.ai]
theorem alP(c:CK)(s:Sm)(g:c.fe=0)(l:F3 c)(K:c.V.length+Sm.sz s<1000000000)(j:s.k=9)(h:fy c.sg.bR s.k s.es=true):HO pre c s:=by
 refine sY c s g l K h T0 (by rw[j];rfl) λY L=>?_;obtain⟨y,rfl⟩:∃y,Y=[y]:=by
  unfold As at L;rw[j]at L h;unfold fy at h;rw[U (by decide),U (by decide),U (by decide),af rfl]at h;rw[af rfl]at L;match p:s.es,h with
  |[e],_=>
   rw[p]at L;simp only at L;cases m:xX c.H c.V e with
   |error a=>rw[m]at L;cases L|ok y=>rw[m]at L;cases L;exact⟨y,rfl⟩
 have n:=λah=>iS (pre:=pre) ah c [];rw[cz g]at n;have J:=λwl ah st=>rA wl ah st;have P:=λwl ah st=>ot wl ah st;have D:=λah=>kJ (pre:=pre) ah c s.a [];have S:=λah=>lK (pre:=pre) ah c s.nm [] l.s;have F:=λwl ah bx=>EM (pre:=pre) (wl:=wl) (ah:=ah) (c:=c) (r:=[]) (bx:=bx);have G:=λwl ah bx=>Ho (pre:=pre) (wl:=wl) (ah:=ah) (c:=c) (r:=[]) (bx:=bx);obtain⟨I,B,T⟩:=gh (s:=s);have C:(bZ s.bd).ai=bZ s.bd:=bQ;have W:(bZ s.el).ai=bZ s.el:=bQ;have m1:bf (cq 11 (E.rows [y]))=true:=dM;have N:(cq 11 (E.rows [y])).ai=bG [y]:=rfl;have w:aY (cq 11 (E.rows [y]))=[y.aI]:=rfl;have m4:cN 11 (cq 11 (E.rows [y]))=true:=by simp[E.rows,cr,E.aQ]
 have v1:bf (bG [y])=true:=ck;have v2:(bG [y]).ai=bG [y]:=bY;have x:aY (bG [y])=[y.aI]:=rfl;have v4:cN 11 (bG [y])=true:=nC;have X:c.cy c.V=c:=rfl;have q:(decide ((9:Int)=1\/(9:Int)=2))=false:=by decide
 have R:¬((9:Int)=1\/(9:Int)=2):=by decide
 have t:eS 9 s.on=[]:=rfl;have v:eU 9 s.od=0:=rfl;have z:Kz c.H c.sg.bR c.sg.res c.V s [y] T0=.ok (.mk 9 [] [] 0 [y] [] [] s.a 0,c.V):=by
  unfold Kz pA;simp[j,nj,eS,eU]
 rw[z,j];rw[t,v,q,U R,U R];rw[E.aQ y]at w x;simp only;unfold TG TQ;rw[pT,Sm.aQ s,j,X,u5];generalize cq 11 (E.rows [y])=M,bG [y]=yv,bG s.es=Q,bZ s.bd=O,bZ s.el=Z,c.bO=o at *;simp[-aE,-ax,js,jG,iY,n,N,v1,ay,AV.ai]
theorem alQ(c:CK)(s:Sm)(g:c.fe=0)(l:F3 c)(p:c.V.length+Sm.sz s<1000000000)(j:s.k=3)(h:fy c.sg.bR s.k s.es=true):HO pre c s:=by
 refine sY c s g l p h T0 (by rw[j];rfl) λys L=>?_;have F:As c.H c.V s.k s.es=rF c.H c.V s.es:=U (by omega);rw[F]at L;rw[j]at h;obtain⟨y,rfl⟩:=Cp (by simpa [fy] using h) L;have m:=λah=>iS (pre:=pre) ah c [];rw[cz g]at m;have W:=λwl ah st=>rA wl ah st;have eT:=λwl ah st=>ot wl ah st;have D:=λah=>kJ (pre:=pre) ah c s.a [];have S:=λah=>lK (pre:=pre) ah c s.nm [] l.s;have I:=λwl ah bx=>EM (pre:=pre) (wl:=wl) (ah:=ah) (c:=c) (r:=[]) (bx:=bx);have J:=λwl ah bx=>Ho (pre:=pre) (wl:=wl) (ah:=ah) (c:=c) (r:=[]) (bx:=bx);obtain⟨T,P,l1⟩:=gh (s:=s);have Q:(bZ s.bd).ai=bZ s.bd:=bQ;have l2:(bZ s.el).ai=bZ s.el:=bQ;have m1:bf (cq 11 (E.rows [y]))=true:=dM;have N:(cq 11 (E.rows [y])).ai=bG [y]:=rfl;have C:aY (cq 11 (E.rows [y]))=[y.aI]:=rfl;have m4:cN 11 (cq 11 (E.rows [y]))=true:=by simp[E.rows,cr,E.aQ]
 have v1:bf (bG [y])=true:=ck;have v2:(bG [y]).ai=bG [y]:=bY;have v:aY (bG [y])=[y.aI]:=rfl;have v4:cN 11 (bG [y])=true:=nC;have X:c.cy c.V=c:=rfl;have t:(decide ((3:Int)=1\/(3:Int)=2))=false:=by decide
 have R:¬((3:Int)=1\/(3:Int)=2):=by decide
 have w:eS 3 s.on=[]:=rfl;have B:eU 3 s.od=0:=rfl;have z:Kz c.H c.sg.bR c.sg.res c.V s [y] T0=match ue c.H c.V s.nm with
   |some (u,r)=>if u=y.ty then .ok (.mk 3 s.nm [] 0 [y] [] [] s.a r,c.V) else .error s.a
   |none=>.error s.a:=by
  unfold Kz pA;simp only[j];cases ue c.H c.V s.nm with
  |none=>simp|some x=>by_cases q:x.1=y.ty<;>simp[Ce,q,nj,eS,eU]
 rw[z,j];rw[w,B,t,U R,U R];rw[E.aQ y]at C v;cases n:ue c.H c.V s.nm with
 |none=>
  rw[n]at S;simp only;refine⟨c.V,[.int .i64 3,.str [],.str [],.int .i64 0,bG [y],.aF,.aF,.int .i64 s.a,.int .i64 0],⟨_,_,_,_,_,_,_,_,_,rfl,v1,rfl,rfl⟩,?_⟩;unfold TG TQ;rw[Sm.aQ s,j,X];generalize cq 11 (E.rows [y])=M,bG [y]=Y,bG s.es=K,bZ s.bd=O,bZ s.el=Z,(c.fail s.a).bO=G,c.bO=o at *;simp[-aE,-ax,js,jG,iY,m,S,qE,D,N,v1,aD,aC,ay,AV.ai]
 |some x=>
  obtain⟨u,r⟩:=x;rw[n]at S;simp only;by_cases q:u=y.ty;rw[af q];have q:(u=y.ty)=True:=eq_true q;simp only;unfold TG TQ;rw[pT,Sm.aQ s,j,X,u5];generalize cq 11 (E.rows [y])=M,bG [y]=Y,bG s.es=K,bZ s.bd=O,bZ s.el=Z,c.bO=o at *;simp[-aE,-ax,cT,js,jG,iY,m,S,qE,dU,q,N,v1,v,v4,aD,aC,ay,AV.ai];rw[U q];simp only;refine⟨c.V,[.int .i64 3,.str [],.str [],.int .i64 0,bG [y],.aF,.aF,.int .i64 s.a,.int .i64 r],⟨_,_,_,_,_,_,_,_,_,rfl,v1,rfl,rfl⟩,?_⟩;unfold TG TQ;rw[Sm.aQ s,j,X];generalize cq 11 (E.rows [y])=M,bG [y]=Y,bG s.es=K,bZ s.bd=O,bZ s.el=Z,(c.fail s.a).bO=G,c.bO=o at *;simp[-aE,-ax,cT,js,jG,iY,m,S,qE,dU,q,D,N,v1,v,v4,aD,aC,ay,AV.ai]
theorem agT(c:CK)(s:Sm)(g:c.fe=0)(n:F3 c)(K:c.V.length+Sm.sz s<1000000000)(j:s.k=7)(h:fy c.sg.bR s.k s.es=true)(l:c.sg.bR=true):HO pre c s:=by
 refine sY c s g n K h T0 (by rw[j];rfl) λys L=>?_;have C:As c.H c.V s.k s.es=rF c.H c.V s.es:=U (by omega);rw[C]at L;rw[j]at h;obtain⟨y,rfl⟩:=Cp (by rw[l]at h;simpa [fy] using h) L;have m:=λah=>iS (pre:=pre) ah c [];rw[cz g]at m;have Q:=λwl ah st=>rA wl ah st;have S:=λwl ah st=>ot wl ah st;have D:=λah=>kJ (pre:=pre) ah c s.a [];have T:=λah=>lK (pre:=pre) ah c s.nm [] n.s;have F:=λwl ah bx=>EM (pre:=pre) (wl:=wl) (ah:=ah) (c:=c) (r:=[]) (bx:=bx);have G:=λwl ah bx=>Ho (pre:=pre) (wl:=wl) (ah:=ah) (c:=c) (r:=[]) (bx:=bx);obtain⟨P,I,W⟩:=gh (s:=s);have J:(bZ s.bd).ai=bZ s.bd:=bQ;have l2:(bZ s.el).ai=bZ s.el:=bQ;have m1:bf (cq 11 (E.rows [y]))=true:=dM;have N:(cq 11 (E.rows [y])).ai=bG [y]:=rfl;have B:aY (cq 11 (E.rows [y]))=[y.aI]:=rfl;have m4:cN 11 (cq 11 (E.rows [y]))=true:=by simp[E.rows,cr,E.aQ]
 have v1:bf (bG [y])=true:=ck;have v2:(bG [y]).ai=bG [y]:=bY;have v:aY (bG [y])=[y.aI]:=rfl;have v4:cN 11 (bG [y])=true:=nC;have X:c.cy c.V=c:=rfl;have p:(decide ((7:Int)=1\/(7:Int)=2))=false:=by decide
 have R:¬((7:Int)=1\/(7:Int)=2):=by decide
 have t:eS 7 s.on=[]:=rfl;have w:eU 7 s.od=0:=rfl;have z:Kz c.H c.sg.bR c.sg.res c.V s [y] T0=if y.ty=c.sg.res then .ok (.mk 7 [] [] 0 [y] [] [] s.a 0,c.V) else .error s.a:=by
  unfold Kz pA;simp only[j];by_cases q:y.ty=c.sg.res;simp[Ce,q,nj,eS,eU];simp[Ce,q]
 rw[l]at F;rw[z,j];rw[t,w,p,U R,U R];rw[E.aQ y]at B v;by_cases q:y.ty=c.sg.res;rw[af q];have q:(y.ty=c.sg.res)=True:=eq_true q;simp only;unfold TG TQ;rw[pT,Sm.aQ s,j,X,u5];generalize cq 11 (E.rows [y])=M,bG [y]=Y,bG s.es=x,bZ s.bd=O,bZ s.el=Z,c.bO=o at *;simp[-aE,-ax,cT,js,jG,iY,m,F,G,dU,q,N,v1,v,v4,aD,aC,ay,AV.ai];rw[U q];simp only;refine⟨c.V,[.int .i64 7,.str [],.str [],.int .i64 0,bG [y],.aF,.aF,.int .i64 s.a,.int .i64 0],⟨_,_,_,_,_,_,_,_,_,rfl,v1,rfl,rfl⟩,?_⟩;unfold TG TQ;rw[Sm.aQ s,j,X];generalize cq 11 (E.rows [y])=M,bG [y]=Y,bG s.es=x,bZ s.bd=O,bZ s.el=Z,(c.fail s.a).bO=o2,c.bO=o at *;simp[-aE,-ax,cT,js,jG,iY,m,F,G,dU,q,D,N,v1,v,v4,aD,aC,ay,AV.ai]
theorem agU(c:CK)(s:Sm)(g:c.fe=0)(m:F3 c)(K:c.V.length+Sm.sz s<1000000000)(j:s.k=7)(h:fy c.sg.bR s.k s.es=true)(l:c.sg.bR=false):HO pre c s:=by
 refine sY c s g m K h T0 (by rw[j];rfl) λy L=>?_;have w:As c.H c.V s.k s.es=rF c.H c.V s.es:=U (by omega);rw[w]at L;rw[j]at h;obtain rfl:y=[]:=by
  have p:s.es=[]:=by rw[l]at h;simpa [fy] using h
  have:=nH L;rw[p]at this;exact ad8 this
 have n:=λah=>iS (pre:=pre) ah c [];rw[cz g]at n;have I:=λwl ah st=>rA wl ah st;have J:=λwl ah st=>ot wl ah st;have D:=λah=>kJ (pre:=pre) ah c s.a [];have S:=λah=>lK (pre:=pre) ah c s.nm [] m.s;have F:=λwl ah bx=>EM (pre:=pre) (wl:=wl) (ah:=ah) (c:=c) (r:=[]) (bx:=bx);have G:=λwl ah bx=>Ho (pre:=pre) (wl:=wl) (ah:=ah) (c:=c) (r:=[]) (bx:=bx);obtain⟨C,B,Q⟩:=gh (s:=s);have x:(bZ s.bd).ai=bZ s.bd:=bQ;have T:(bZ s.el).ai=bZ s.el:=bQ;have W:bf (cq 11 (E.rows []))=true:=dM;have N:(cq 11 (E.rows [])).ai=bG []:=rfl;have Y:aY (cq 11 (E.rows []))=[]:=rfl;have m4:cN 11 (cq 11 (E.rows []))=true:=by simp[E.rows,cr]
 have v1:bf (bG [])=true:=ck;have v2:(bG []).ai=bG []:=bY;have v3:aY (bG [])=[]:=rfl;have v4:cN 11 (bG [])=true:=nC;have X:c.cy c.V=c:=rfl;have q:(decide ((7:Int)=1\/(7:Int)=2))=false:=by decide
 have R:¬((7:Int)=1\/(7:Int)=2):=by decide
 have t:eS 7 s.on=[]:=rfl;have v:eU 7 s.od=0:=rfl;have z:Kz c.H c.sg.bR c.sg.res c.V s [] T0=.ok (.mk 7 [] [] 0 [] [] [] s.a 0,c.V):=by
  unfold Kz pA;simp[j,nj,eS,eU]
 rw[l]at F;rw[z,j];rw[t,v,q,U R,U R];simp only;unfold TG TQ;rw[pT,Sm.aQ s,j,X,u5];generalize cq 11 (E.rows [])=M,bG []=yv,bG s.es=P,bZ s.bd=O,bZ s.el=Z,c.bO=o at *;simp[-aE,-ax,js,jG,iY,n,F,N,v1,aD,aC,ay,AV.ai]
theorem alR(c:CK)(s:Sm)(H:c.fe=0)(g:F3 c)(K:c.V.length+Sm.sz s<1000000000)(j:s.k=7)(h:fy c.sg.bR s.k s.es=true):HO pre c s:=by
 cases M:c.sg.bR with
 |true=>exact agT c s H g K j h M|false=>exact agU c s H g K j h M
theorem YF(ah:Nat)(c:CK)(l:List Sm)(H:c.fe≠0):(aZ S).call 0 ah 88 [.ptr pre.length 0 0 0,bZ l] (pre++[c.bO])=some (.aF,pre++[c.bO]):=by
 have J:bf (bZ l)=true:=cQ;have K:(bZ l).ai=bZ l:=bQ;have j:aY (bZ l)=Sm.rows l:=bn;have m:=λah=>iS (pre:=pre) ah c [];rw[eX H]at m;generalize bZ l=Z,c.bO=o at *;refine aG (sf:=s88) rfl rfl rfl ?_;simp[-aE,-ax,s88];rw[zm Nz.eq_1];by_cases h:0<l.length;simp[-aE,-ax,J,K,j,h,m];simp[-aE,-ax,J,K,j,h]
theorem alS(c:CK)(s:Sm)(z:c.fe=0)(B:F3 c)(J:c.V.length+Sm.sz s<1000000000)(g:s.k=6)(h:fy c.sg.bR s.k s.es=true)(S:∀d:CK,d.H=c.H->d.sg=c.sg->d.fe=0->F3 d->d.V.length+Sm.eD s.bd<1000000000->Sn pre d s.bd):HO pre c s:=by
 refine sY c s z B J h T0 (by rw[g];rfl) λys L=>?_;have mZ:As c.H c.V s.k s.es=rF c.H c.V s.es:=U (by omega);rw[mZ]at L;rw[g]at h;obtain⟨y,rfl⟩:=Cp (by simpa [fy] using h) L;have m:=λah=>iS (pre:=pre) ah c [];rw[cz z]at m;have eI:=λwl ah st=>rA wl ah st;have t:=λwl ah st=>ot wl ah st;have I:=λah=>kJ (pre:=pre) ah c s.a [];have eV:=λah=>lK (pre:=pre) ah c s.nm [] B.s;have HT:=λwl ah bx=>EM (pre:=pre) (wl:=wl) (ah:=ah) (c:=c) (r:=[]) (bx:=bx);have Oz:=λwl ah bx=>Ho (pre:=pre) (wl:=wl) (ah:=ah) (c:=c) (r:=[]) (bx:=bx);obtain⟨e1,b1,l1⟩:=gh (s:=s);have C:(bZ s.bd).ai=bZ s.bd:=bQ;have l2:(bZ s.el).ai=bZ s.el:=bQ;have m1:bf (cq 11 (E.rows [y]))=true:=dM;have N:(cq 11 (E.rows [y])).ai=bG [y]:=rfl;have m3:aY (cq 11 (E.rows [y]))=[y.aI]:=rfl;have m4:cN 11 (cq 11 (E.rows [y]))=true:=by simp[E.rows,cr,E.aQ]
 have v1:bf (bG [y])=true:=ck;have v2:(bG [y]).ai=bG [y]:=bY;have l:aY (bG [y])=[y.aI]:=rfl;have v4:cN 11 (bG [y])=true:=nC;have l8:c.cy c.V=c:=rfl;have Q:(decide ((6:Int)=1\/(6:Int)=2))=false:=by decide
 have R:¬((6:Int)=1\/(6:Int)=2):=by decide
 have T:eS 6 s.on=[]:=rfl;have X:eU 6 s.od=0:=rfl;have P:Kz c.H c.sg.bR c.sg.res c.V s [y] T0=if y.ty=tB then (match nN c.H c.sg.bR c.sg.res c.V s.bd with
   |.error x=>.error x|.ok (b,n)=>.ok (.mk 6 [] [] 0 [y] b [] s.a 0,n)) else .error s.a:=by
  unfold Kz pA;simp only[g];by_cases q:y.ty=tB;simp[Ce,q,nj,eS,eU]<;>rfl;simp[Ce,q]
 have hz:=Sm.wz s;have j:=S c rfl rfl z B (by omega);unfold Sn at j;rw[P,g];rw[T,X,Q,U R,U R];rw[E.aQ y]at m3 l;by_cases q:y.ty=tB;rw[af q];cases D:nN c.H c.sg.bR c.sg.res c.V s.bd with
 |error a=>
  rw[D]at j;simp only at j ⊢;obtain⟨W,v,w,j⟩:=j (pre.length+1);have p:bf v.ai=true:=by rw[vq];exact w
  have G:v.ai.ai=v.ai:=vr v;refine⟨W,[.int .i64 6,.str [],.str [],.int .i64 0,bG [y],v.ai,.aF,.int .i64 s.a,.int .i64 0],⟨_,_,_,_,_,_,_,_,_,rfl,v1,p,rfl⟩,?_⟩;unfold TG TQ;rw[Sm.aQ s,g];generalize cq 11 (E.rows [y])=M,bG [y]=Y,bG s.es=K,bZ s.bd=O,bZ s.el=Z,((c.cy W).fail a).bO=F,c.bO=o at *;simp[-aE,-ax,cT,js,jG,iY,m,t,q,j,w,p,N,v1,l,v4,C,aD,aC,ay,AV.ai]
 |ok x=>
  obtain⟨b,n⟩:=x;rw[D]at j;simp only at j ⊢;unfold TG TQ;rw[pT,Sm.aQ s,g,u5];have w:bf (cq 9 (Sm.rows b))=true:=dM;have p:(cq 9 (Sm.rows b)).ai=bZ b:=rfl;have G:bf (bZ b)=true:=cQ;have w4:(bZ b).ai=bZ b:=bQ;generalize cq 9 (Sm.rows b)=BM,bZ b=BV,cq 11 (E.rows [y])=M,bG [y]=Y,bG s.es=K,bZ s.bd=O,bZ s.el=Z,(c.cy n).bO=F,c.bO=o at *;simp[-aE,-ax,cT,js,jG,iY,m,t,q,j,w,p,G,N,v1,l,v4,C,aD,aC,ay,AV.ai]
 rw[U q];simp only;refine⟨c.V,[.int .i64 6,.str [],.str [],.int .i64 0,bG [y],.aF,.aF,.int .i64 s.a,.int .i64 0],⟨_,_,_,_,_,_,_,_,_,rfl,v1,rfl,rfl⟩,?_⟩;unfold TG TQ;rw[Sm.aQ s,g,l8];generalize cq 11 (E.rows [y])=M,bG [y]=Y,bG s.es=K,bZ s.bd=O,bZ s.el=Z,(c.fail s.a).bO=F,c.bO=o at *;simp[-aE,-ax,cT,js,jG,iY,m,t,dB,q,I,N,v1,l,v4,aD,aC,ay,AV.ai]
theorem alT(c:CK)(s:Sm)(C:c.fe=0)(m:F3 c)(eO:c.V.length+Sm.sz s<1000000000)(g:s.k=5)(h:fy c.sg.bR s.k s.es=true)(Ss:∀d:CK,d.H=c.H->d.sg=c.sg->d.fe=0->F3 d->d.V.length+Sm.eD s.bd<1000000000->Sn pre d s.bd)(L:∀d:CK,d.H=c.H->d.sg=c.sg->d.fe=0->F3 d->d.V.length+Sm.eD s.el<1000000000->Sn pre d s.el):HO pre c s:=by
 refine sY c s C m eO h T0 (by rw[g];rfl) λys lT=>?_;have mZ:As c.H c.V s.k s.es=rF c.H c.V s.es:=U (by omega);rw[mZ]at lT;rw[g]at h;obtain⟨y,rfl⟩:=Cp (by simpa [fy] using h) lT;have n:=λah=>iS (pre:=pre) ah c [];rw[cz C]at n;have eI:=λwl ah st=>rA wl ah st;have B:=λwl ah st=>ot wl ah st;have Dk:=λah=>kJ (pre:=pre) ah c s.a [];have eV:=λah=>lK (pre:=pre) ah c s.nm [] m.s;have HT:=λwl ah bx=>EM (pre:=pre) (wl:=wl) (ah:=ah) (c:=c) (r:=[]) (bx:=bx);have Oz:=λwl ah bx=>Ho (pre:=pre) (wl:=wl) (ah:=ah) (c:=c) (r:=[]) (bx:=bx);obtain⟨e1,b1,l1⟩:=gh (s:=s);have J:(bZ s.bd).ai=bZ s.bd:=bQ;have S:(bZ s.el).ai=bZ s.el:=bQ;have m1:bf (cq 11 (E.rows [y]))=true:=dM;have N:(cq 11 (E.rows [y])).ai=bG [y]:=rfl;have m3:aY (cq 11 (E.rows [y]))=[y.aI]:=rfl;have m4:cN 11 (cq 11 (E.rows [y]))=true:=by simp[E.rows,cr,E.aQ]
 have v1:bf (bG [y])=true:=ck;have v2:(bG [y]).ai=bG [y]:=bY;have p:aY (bG [y])=[y.aI]:=rfl;have v4:cN 11 (bG [y])=true:=nC;have l8:c.cy c.V=c:=rfl;have hp:(decide ((5:Int)=1\/(5:Int)=2))=false:=by decide
 have yU:¬((5:Int)=1\/(5:Int)=2):=by decide
 have k1:eS 5 s.on=[]:=rfl;have k2:eU 5 s.od=0:=rfl;have hR:Kz c.H c.sg.bR c.sg.res c.V s [y] T0=if y.ty=tB then (match nN c.H c.sg.bR c.sg.res c.V s.bd with
   |.error x=>.error x|.ok (b,w)=>match nN c.H c.sg.bR c.sg.res w s.el with
    |.error x=>.error x|.ok (d,l)=>.ok (.mk 5 [] [] 0 [y] b d s.a 0,l)) else .error s.a:=by
  unfold Kz pA;simp only[g];by_cases q:y.ty=tB;simp[Ce,q,nj,eS,eU]<;>rfl;simp[Ce,q]
 have hz:=Sm.wz s;have j:=Ss c rfl rfl C m (by omega);unfold Sn at j;rw[hR,g];rw[k1,k2,hp,U yU,U yU];rw[E.aQ y]at m3 p;by_cases q:y.ty=tB;rw[af q];cases K:nN c.H c.sg.bR c.sg.res c.V s.bd with
 |error a=>
  rw[K]at j;simp only at j ⊢;obtain⟨W,v,t,j⟩:=j (pre.length+1);have z:bf v.ai=true:=by rw[vq];exact t
  have D:v.ai.ai=v.ai:=vr v;have hF:=λah=>YF (pre:=pre) ah ((c.cy W).fail a) s.el uY;refine⟨W,[.int .i64 5,.str [],.str [],.int .i64 0,bG [y],v.ai,.aF,.int .i64 s.a,.int .i64 0],⟨_,_,_,_,_,_,_,_,_,rfl,v1,z,rfl⟩,?_⟩;unfold TG TQ;rw[Sm.aQ s,g];generalize cq 11 (E.rows [y])=M,bG [y]=Y,bG s.es=Q,bZ s.bd=O,bZ s.el=Z,((c.cy W).fail a).bO=T,c.bO=o at *;simp[-aE,-ax,cT,js,jG,iY,n,B,q,j,hF,t,z,N,v1,p,v4,J,S,aD,aC,ay,AV.ai]
 |ok x=>
  obtain⟨b,w⟩:=x;rw[K]at j;simp only at j ⊢;obtain⟨g1,g2⟩:=ab2 m.V K;have R:=L (c.cy w) rfl rfl C (Od m g1 (by omega)) (by show w.length+_<_;omega);unfold Sn at R;have P:nN (c.cy w).H (c.cy w).sg.bR (c.cy w).sg.res (c.cy w).V s.el=nN c.H c.sg.bR c.sg.res w s.el:=rfl;rw[P]at R;have t:bf (cq 9 (Sm.rows b))=true:=dM;have z:(cq 9 (Sm.rows b)).ai=bZ b:=rfl;have D:bf (bZ b)=true:=cQ;have w4:(bZ b).ai=bZ b:=bQ;cases X:nN c.H c.sg.bR c.sg.res w s.el with
  |error a=>
   rw[X]at R;simp only at R ⊢;obtain⟨W,v,F,R⟩:=R (pre.length+1);have I:bf v.ai=true:=(by rw[vq];exact F);have u3:v.ai.ai=v.ai:=vr v;have G:(c.cy w).cy W=c.cy W:=rfl;rw[G]at R;refine⟨W,[.int .i64 5,.str [],.str [],.int .i64 0,bG [y],bZ b,v.ai,.int .i64 s.a,.int .i64 0],⟨_,_,_,_,_,_,_,_,_,rfl,v1,D,I⟩,?_⟩;unfold TG TQ;rw[Sm.aQ s,g];generalize cq 9 (Sm.rows b)=BM,bZ b=BV,cq 11 (E.rows [y])=M,bG [y]=Y,bG s.es=Q,bZ s.bd=O,bZ s.el=Z,(c.cy w).bO=T,((c.cy W).fail a).bO=o3,c.bO=o at *;simp[-aE,-ax,cT,js,jG,iY,n,B,q,j,R,t,z,D,F,I,N,v1,p,v4,J,S,aD,aC,ay,AV.ai]
  |ok x=>
   obtain⟨d,l⟩:=x;rw[X]at R;simp only at R ⊢;have G:(c.cy w).cy l=c.cy l:=rfl;rw[G]at R;have F:bf (cq 9 (Sm.rows d))=true:=dM;have I:(cq 9 (Sm.rows d)).ai=bZ d:=rfl;have u3:bf (bZ d)=true:=cQ;have u4:(bZ d).ai=bZ d:=bQ;unfold TG TQ;rw[pT,Sm.aQ s,g];generalize cq 9 (Sm.rows b)=BM,bZ b=BV,cq 9 (Sm.rows d)=DM,bZ d=DV,cq 11 (E.rows [y])=M,bG [y]=Y,bG s.es=Q,bZ s.bd=O,bZ s.el=Z,(c.cy w).bO=T,(c.cy l).bO=o3,c.bO=o at *;simp[-aE,-ax,cT,js,jG,iY,n,B,q,j,R,t,z,D,F,I,u3,N,v1,p,v4,J,S,aD,aC,ay,AV.ai]
 rw[U q];simp only;refine⟨c.V,[.int .i64 5,.str [],.str [],.int .i64 0,bG [y],.aF,.aF,.int .i64 s.a,.int .i64 0],⟨_,_,_,_,_,_,_,_,_,rfl,v1,rfl,rfl⟩,?_⟩;unfold TG TQ;rw[Sm.aQ s,g,l8];generalize cq 11 (E.rows [y])=M,bG [y]=Y,bG s.es=Q,bZ s.bd=O,bZ s.el=Z,(c.fail s.a).bO=T,c.bO=o at *;simp[-aE,-ax,cT,js,jG,iY,n,B,dB,q,Dk,N,v1,p,v4,aD,aC,ay,AV.ai]
end R9
namespace R9
open Ax Go aO V7 iQ iZ K9
variable {pre:aj}
theorem wK(c:CK)(s:Sm)(ah:Nat)(g:Bool)(w:c.V.length<1000000000){rs:List jv}{Q:Ex->St->Prop}{kk:List uQ}(bs:List (List AV))(h:List AV)(q:h=s.aI)
  (J:W S 0 ah rs Q kk .normal ⟨[(0,.val (.ptr pre.length 0 0 0)),(3,.fp 0 0),(4,.fp 1 0),(5,.fp 2 0),(6,.fp 3 0),(7,.val (.bool true)),(11,.val (.bool (g&&(jj s.nm 0 c.V).isNone)))],h::bs,pre++[c.bO]⟩) :
  W S 0 ah rs Q (.code (.loop NC)::.kC 3::kk) .normal ⟨[(0,.val (.ptr pre.length 0 0 0)),(3,.fp 0 0),(4,.fp 1 0),(5,.fp 2 0),(6,.fp 3 0),(7,.val (.bool true)),(11,.val (.bool g)),(15,.val (.int .i64 0))],h::bs,pre++[c.bO]⟩:=by
 subst q;rw[Sm.aQ]at *;have m:cN 4 (cG c.V)=true:=vC;have t:bf (cG c.V)=true:=iD;have z:aY (cG c.V)=c.V.map Vd.aI:=sA;have p:=λwl ah bx=>acM (pre:=pre) (wl:=wl) (ah:=ah) (c:=c) (r:=[]) (bx:=bx);generalize cG c.V=v,c.bO=o at *;refine bN NC.eq_1 (λx:Nat×Bool=>⟨[(0,.val (.ptr pre.length 0 0 0)),(3,.fp 0 0),(4,.fp 1 0),(5,.fp 2 0),(6,.fp 3 0),(7,.val (.bool true)),(11,.val (.bool x.2)),(15,.val (.int .i64 x.1))],[.int .i64 s.k,.str s.nm,.str s.on,.int .i64 s.od,bG s.es,bZ s.bd,bZ s.el,.int .i64 s.a,.int .i64 s.ref]::bs,pre++[o]⟩)
  (λx=>x.1<=c.V.length/\(g&&(jj s.nm 0 c.V).isNone)=(x.2&&(jj s.nm x.1 (c.V.drop x.1)).isNone)) (λx=>c.V.length-x.1) (0,g) rfl ⟨by simp,by simp⟩ ?_
 rintro⟨k,b⟩ ⟨n,j⟩ I;simp only at n j I;by_cases F:k<c.V.length;have H:=wk k (by omega);rw[Ck F]at j;cases b with
 |false=>
  have G:=I (k+1,false) ⟨by simp only;omega,by rw[j];rfl⟩ (by simp only;omega);simp[-aE,-ax,p,t,z,F,H,aD,aC];exact G
 |true=>
  by_cases e:c.V[k].nm=s.nm;rw[af e]at j;have G:=I (k+1,false) ⟨by simp only;omega,by rw[j];rfl⟩ (by simp only;omega);simp[-aE,-ax,cT,p,t,m,z,F,H,e,Vd.aI,aD,aC];exact G;rw[U e]at j;have G:=I (k+1,true) ⟨by simp only;omega,j⟩ (by simp only;omega);simp[-aE,-ax,cT,p,t,m,z,F,H,e,Vd.aI,aD,aC];exact G
 have l:k=c.V.length:=by omega
 have:b=(g&&(jj s.nm 0 c.V).isNone):=by rw[j,l,aep];simp[jj]
 rw[<-this]at J;simp[-aE,-ax,p,t,z,F];exact J
theorem aq7(c:CK)(s:List UInt8)(t:T3)(g:c.V.length<1000000000):v8 4 40 (cq 4 (c.V.map Vd.aI)) [[.str s,.int .i64 t.b,.int .i64 t.r,.int .i64 t.d]]=some (cq 4 ((c.V++[(⟨s,t⟩:Vd)]).map Vd.aI)):=by
 have o:=gP (sz:=4) (bytes:=40) (r:=c.V.map Vd.aI) (new:=[[.str s,.int .i64 t.b,.int .i64 t.r,.int .i64 t.d]]) (by simp[cr]) (by simp[cZ];omega);have n:c.V.map Vd.aI++[[.str s,.int .i64 t.b,.int .i64 t.r,.int .i64 t.d]]=(c.V++[(⟨s,t⟩:Vd)]).map Vd.aI:=by simp[Vd.aI]
 rw[n]at o;exact o
theorem alV(c:CK)(s:Sm)(q:c.fe=0)(m:F3 c)(K:c.V.length+Sm.sz s<1000000000)(j:s.k=1)(h:fy c.sg.bR s.k s.es=true):HO pre c s:=by
 cases l:rH c.H s.k s.on s.od with
 |none=>
  have hz:=Sm.wz s;have Z:=E.lF s.es;unfold HO;rw[Kc,af h,l];simp only;exact λah=>⟨c.V,_,⟨_,_,_,_,_,_,_,_,_,rfl,rfl,rfl,rfl⟩,Mz c s ah m.s (by omega) h l⟩
 |some t=>
  refine sY c s q m K h t l λys L=>?_;have S:As c.H c.V s.k s.es=rF c.H c.V s.es:=U (by omega);rw[S]at L;rw[j]at h;obtain rfl:ys=[]:=by
   have h0:s.es.length=0:=(by simpa [fy] using h);have:=nH L;exact ad8 (by omega)
  have g:=m.s.V;have M:=λah=>iS (pre:=pre) ah c [];rw[cz q]at M;have D:=λah=>kJ (pre:=pre) ah c s.a [];have p:=λwl ah bx=>acM (pre:=pre) (wl:=wl) (ah:=ah) (c:=c) (r:=[]) (bx:=bx);have y:=λah bx=>acT (pre:=pre) (ah:=ah) (c:=c) (bx:=bx);have n:=λah bx=>aiV (pre:=pre) (ah:=ah) (c:=c) (w:=(cq 4 (c.V.map Vd.aI)).gi) (W:=c.V++[(⟨s.nm,t⟩:Vd)]) (bx:=bx);have sR:=aq7 c s.nm t g;obtain⟨e1,b1,l1⟩:=gh (s:=s);have m0:cq 11 (E.rows [])=.aF:=rfl;have T:bf (cG c.V)=true:=iD;have z:(aY (cG c.V)).length=c.V.length:=by simp
  have N:c.cy c.V=c:=rfl;have F:(decide ((1:Int)=1\/(1:Int)=2))=true:=by decide
  have R:((1:Int)=1\/(1:Int)=2):=by decide
  have G:eS 1 s.on=s.on:=rfl;have I:eU 1 s.od=s.od:=rfl;have Yh:IntKind.i64.wrap (c.V.length:Int)=c.V.length:=by rw[dY]<;>omega
  have B:Kz c.H c.sg.bR c.sg.res c.V s [] t=match jj s.nm 0 c.V with
    |some _=>.error s.a|none=>.ok (.mk 1 s.nm s.on s.od [] [] [] s.a c.V.length,c.V++[⟨s.nm,t⟩]):=by
   unfold Kz pA;simp only[j];cases jj s.nm 0 c.V<;>simp[nj,eS,eU]
  rw[B,j];rw[G,I,F,af R,af R,m0];cases v:jj s.nm 0 c.V with
  |some x=>
   simp only;refine⟨c.V,[.int .i64 1,.str [],.str s.on,.int .i64 s.od,.aF,.aF,.aF,.int .i64 s.a,.int .i64 c.V.length],⟨_,_,_,_,_,_,_,_,_,rfl,rfl,rfl,rfl⟩,?_⟩;unfold TG TQ;have X:=fun {Q:Ex->St->Prop} {rs:List jv} {kk:List uQ} bs ah=>wK (pre:=pre) c s ah true g (rs:=rs) (Q:=Q) (kk:=kk) bs _ rfl;rw[v]at X;rw[Sm.aQ s,j,N]at *;generalize bG s.es=J,bZ s.bd=O,bZ s.el=P,(c.fail s.a).bO=Y,c.bO=o at *;simp[-aE,-ax,js,jG,iY,M,AV.ai];refine X _ _ ?_;simp[-aE,-ax,p,T,D,ay,AV.ai]
  |none=>
   simp only;unfold TG TQ;have X:=fun {Q:Ex->St->Prop} {rs:List jv} {kk:List uQ} bs ah=>wK (pre:=pre) c s ah true g (rs:=rs) (Q:=Q) (kk:=kk) bs _ rfl;rw[v]at X;have C:({ c with V:=c.V++[(⟨s.nm,t⟩:Vd)] }:CK)=c.cy (c.V++[⟨s.nm,t⟩]):=rfl;rw[C]at n;rw[pT,u5];rw[Sm.aQ s,j]at *;have q1:bG []=.aF:=rfl;rw[q1];generalize cG c.V=FV,(c.cy (c.V++[⟨s.nm,t⟩])).bO=Y,cq 4 ((c.V++[(⟨s.nm,t⟩:Vd)]).map Vd.aI)=M2,c.Yl (cq 4 (c.V.map Vd.aI)).gi=o3 at *;generalize cq 4 (c.V.map Vd.aI)=M1,bG s.es=J,bZ s.bd=O,bZ s.el=P,c.bO=o at *;simp[-aE,-ax,js,jG,iY,M,AV.ai];refine X _ _ ?_;simp[-aE,-ax,p,y,n,sR,T,z,aD,aC,ay,AV.ai]
theorem alW(c:CK)(s:Sm)(B:c.fe=0)(n:F3 c)(P:c.V.length+Sm.sz s<1000000000)(j:s.k=2)(h:fy c.sg.bR s.k s.es=true):HO pre c s:=by
 cases l:rH c.H s.k s.on s.od with
 |none=>
  have hz:=Sm.wz s;have hel:=E.lF s.es;unfold HO;rw[Kc,af h,l];simp only;exact λah=>⟨c.V,_,⟨_,_,_,_,_,_,_,_,_,rfl,rfl,rfl,rfl⟩,Mz c s ah n.s (by omega) h l⟩
 |some t=>
  refine sY c s B n P h t l λys F=>?_;have mZ:As c.H c.V s.k s.es=rF c.H c.V s.es:=U (by omega);rw[mZ]at F;rw[j]at h;obtain⟨y,rfl⟩:=Cp (by simpa [fy] using h) F;have m1:bf (cq 11 (E.rows [y]))=true:=dM;have N:(cq 11 (E.rows [y])).ai=bG [y]:=rfl;have m3:aY (cq 11 (E.rows [y]))=[y.aI]:=rfl;have m4:cN 11 (cq 11 (E.rows [y]))=true:=by simp[E.rows,cr,E.aQ]
  have v1:bf (bG [y])=true:=ck;have v2:(bG [y]).ai=bG [y]:=bY;have v:aY (bG [y])=[y.aI]:=rfl;have v4:cN 11 (bG [y])=true:=nC;rw[E.aQ y]at m3 v;have g:=n.s.V;have m:=λah=>iS (pre:=pre) ah c [];rw[cz B]at m;have D:=λah=>kJ (pre:=pre) ah c s.a [];have p:=λwl ah bx=>acM (pre:=pre) (wl:=wl) (ah:=ah) (c:=c) (r:=[]) (bx:=bx);have S:=λah bx=>acT (pre:=pre) (ah:=ah) (c:=c) (bx:=bx);have z:=λah bx=>aiV (pre:=pre) (ah:=ah) (c:=c) (w:=(cq 4 (c.V.map Vd.aI)).gi) (W:=c.V++[(⟨s.nm,t⟩:Vd)]) (bx:=bx);have sR:=aq7 c s.nm t g;obtain⟨e1,b1,l1⟩:=gh (s:=s);have T:bf (cG c.V)=true:=iD;have J:(aY (cG c.V)).length=c.V.length:=by simp
  have L:c.cy c.V=c:=rfl;have hp:(decide ((2:Int)=1\/(2:Int)=2))=true:=by decide
  have R:((2:Int)=1\/(2:Int)=2):=by decide
  have k1:eS 2 s.on=s.on:=rfl;have k2:eU 2 s.od=s.od:=rfl;have Yh:IntKind.i64.wrap (c.V.length:Int)=c.V.length:=by rw[dY]<;>omega
  have hR:Kz c.H c.sg.bR c.sg.res c.V s [y] t=if y.ty=t then (match jj s.nm 0 c.V with
    |some _=>.error s.a|none=>.ok (.mk 2 s.nm s.on s.od [y] [] [] s.a c.V.length,c.V++[⟨s.nm,t⟩])) else .error s.a:=by
   unfold Kz pA;simp only[j];by_cases q:y.ty=t;cases jj s.nm 0 c.V<;>simp[Ce,q,nj,eS,eU];simp[Ce,q]
  rw[hR,j];rw[k1,k2,hp,af R,af R];by_cases q:y.ty=t;rw[af q];have q:(y.ty=t)=True:=eq_true q;cases C:jj s.nm 0 c.V with
  |some x=>
   simp only;refine⟨c.V,[.int .i64 2,.str [],.str s.on,.int .i64 s.od,bG [y],.aF,.aF,.int .i64 s.a,.int .i64 c.V.length],⟨_,_,_,_,_,_,_,_,_,rfl,v1,rfl,rfl⟩,?_⟩;unfold TG TQ;have X:=fun {Q:Ex->St->Prop} {rs:List jv} {kk:List uQ} bs ah=>wK (pre:=pre) c s ah true g (rs:=rs) (Q:=Q) (kk:=kk) bs _ rfl;rw[C]at X;rw[Sm.aQ s,j,L]at *;generalize cq 11 (E.rows [y])=M,bG [y]=Y,bG s.es=K,bZ s.bd=O,bZ s.el=Z,(c.fail s.a).bO=G,c.bO=o at *;simp[-aE,-ax,cT,js,jG,iY,m,N,v,v4,dU,q,aD,aC,AV.ai];refine X _ _ ?_;simp[-aE,-ax,p,T,D,N,v1,ay,AV.ai]
  |none=>
   simp only;unfold TG TQ;have X:=fun {Q:Ex->St->Prop} {rs:List jv} {kk:List uQ} bs ah=>wK (pre:=pre) c s ah true g (rs:=rs) (Q:=Q) (kk:=kk) bs _ rfl;rw[C]at X;have I:({ c with V:=c.V++[(⟨s.nm,t⟩:Vd)] }:CK)=c.cy (c.V++[⟨s.nm,t⟩]):=rfl;rw[I]at z;rw[pT,u5];rw[Sm.aQ s,j]at *;generalize cG c.V=FV,(c.cy (c.V++[⟨s.nm,t⟩])).bO=G,cq 4 ((c.V++[(⟨s.nm,t⟩:Vd)]).map Vd.aI)=M2,c.Yl (cq 4 (c.V.map Vd.aI)).gi=o3 at *;generalize cq 4 (c.V.map Vd.aI)=M1,cq 11 (E.rows [y])=M,bG [y]=Y,bG s.es=K,bZ s.bd=O,bZ s.el=Z,c.bO=o at *;simp[-aE,-ax,cT,js,jG,iY,m,N,v,v4,dU,q,aD,aC,AV.ai];refine X _ _ ?_;simp[-aE,-ax,p,S,z,sR,T,J,N,v1,aD,aC,ay,AV.ai]
  rw[U q];simp only;refine⟨c.V,[.int .i64 2,.str [],.str s.on,.int .i64 s.od,bG [y],.aF,.aF,.int .i64 s.a,.int .i64 c.V.length],⟨_,_,_,_,_,_,_,_,_,rfl,v1,rfl,rfl⟩,?_⟩;unfold TG TQ;have X:=fun {Q:Ex->St->Prop} {rs:List jv} {kk:List uQ} bs ah=>wK (pre:=pre) c s ah false g (rs:=rs) (Q:=Q) (kk:=kk) bs _ rfl;rw[Bool.false_and]at X;rw[Sm.aQ s,j,L]at *;generalize cq 11 (E.rows [y])=M,bG [y]=Y,bG s.es=K,bZ s.bd=O,bZ s.el=Z,(c.fail s.a).bO=G,c.bO=o at *;simp[-aE,-ax,cT,js,jG,iY,m,N,v,v4,dU,q,aD,aC,AV.ai];refine X _ _ ?_;simp[-aE,-ax,p,T,D,N,v1,ay,AV.ai]
end R9
namespace R9
open Ax Go aO V7 iQ iZ K9
variable {pre:aj}
theorem pL(c:CK)(l:List Sm)(hf:c.fe=0)(hw:F3 c)(eO:c.V.length+Sm.eD l<1000000000)
  (hl:∀s∈l,∀d:CK,d.H=c.H->d.sg=c.sg->d.fe=0->F3 d->d.V.length+Sm.sz s<1000000000->HO pre d s):Sn pre c l:=by
 unfold Sn;have hz:cN 9 (bZ l)=true:=Ob;have M:bf (bZ l)=true:=cQ;have N:(bZ l).ai=bZ l:=bQ;have L:aY (bZ l)=Sm.rows l:=bn;have hlen:=Sm.lF l;have sR:∀(Y:List Sm) (y:Sm),Y.length<1000000000->v8 9 136 (cq 9 (Sm.rows Y)) [y.aI]=some (cq 9 (Sm.rows (Y++[y]))):=λY y h=>by
  rw[gP (by simp[cr,Sm.aQ]) (by simp[cZ];omega)];simp[jQ]
 have Ls:∀(Y:List (List AV)) (y:List AV),y.length=9->Y.length<1000000000->v8 9 136 (cq 9 Y) [y]=some (cq 9 (Y++[y])):=λY y D h=>by
  rw[gP (by simp[cr,D]) (by simp[cZ];omega)]
 cases hR:nN c.H c.sg.bR c.sg.res c.V l with
 |ok x=>
  obtain⟨zs,X⟩:=x;intro m;refine aG (sf:=s88) rfl rfl rfl ?_;generalize bZ l=lv at *;simp[-aE,-ax,s88];refine bN Nz.eq_1 (λx:Nat×List Sm×List Vd×List AV=>⟨[(0,.val (.ptr pre.length 0 0 0)),(1,.val lv),(5,.val (cq 9 (Sm.rows x.2.1))),(6,.val (.int .i64 x.1))],[],pre++[(c.cy x.2.2.1).bO]⟩)
   (λx=>x.1<=l.length/\x.2.1.length=x.1/\Yn x.2.1 (nN c.H c.sg.bR c.sg.res x.2.2.1 (l.drop x.1))=.ok (zs,X)/\F3 (c.cy x.2.2.1)/\x.2.2.1.length+Sm.eD (l.drop x.1)<1000000000) (λx=>l.length-x.1) (0,[],c.V,[]) rfl ⟨by simp,rfl,by simp[Yn,hR],hw,by simpa using eO⟩ ?_
  rintro⟨k,Y,V,b⟩ ⟨hk,J,j,E,g⟩ K;simp only at hk J j E g K;by_cases F:k<l.length;have Z:=wk k (by omega);rw[Q7 l k F]at g;have p:=hl l[k] (acH F) (c.cy V) rfl rfl hf E (by show V.length+_<_;omega);unfold HO at p;have P:Au (c.cy V).H (c.cy V).sg.bR (c.cy V).sg.res (c.cy V).V l[k]=Au c.H c.sg.bR c.sg.res V l[k]:=rfl;rw[P]at p;rw[Yo F]at j;have U:=Oe F;have T:=λo=>Cl F o;have O:=λm=>iS (pre:=pre) m (c.cy V) [];rw[cz (show (c.cy V).fe=0 from hf)]at O;cases r:Au c.H c.sg.bR c.sg.res V l[k] with
  |error a=>rw[r]at j;cases j|ok x=>
   obtain⟨y,W⟩:=x;rw[r]at j p;simp only at j p;obtain⟨w1,w2⟩:=TM l[k] V y W E.V r;have ap:=sR Y y (by omega);have G:=λb=>K (k+1,Y++[y],W,b) ⟨by simp only;omega,by simp[J],j,Od (W:=W) hw w1 (by omega),by show W.length+Sm.eD (l.drop (k+1))<1000000000;omega⟩ (by simp only;omega);simp only at G;have Q:(c.cy V).cy W=c.cy W:=rfl;rw[Q]at p;generalize (c.cy V).bO=o1,(c.cy W).bO=o2,cq 9 (Sm.rows (Y++[y]))=R at *;rw[Sm.aQ l[k]]at p U;simp only[Sm.aQ l[k]]at T;rw[Sm.aQ y]at p ap;generalize l[k]=x at *;simp[-aE,-ax,cT,F,Z,M,N,hz,L,T,O,p,ap,AV.ai];exact G []
  have gW:k=l.length:=by omega
  have hh:Y=zs/\V=X:=by
   rw[gW,aep]at j;simpa [nN,Yn] using j
  obtain⟨D,o⟩:=hh;subst D o;simp[-aE,-ax,M,N,L,F]
 |error a=>
  intro m;obtain⟨v,C,D,W,o,h3⟩:∃v C,(aZ S).call 0 m 88 [.ptr pre.length 0 0 0,bZ l] (pre++[c.bO])=some (v,C)/\∃W,bf v=true/\C=pre++[((c.cy W).fail a).bO]:=by
   refine jL (sf:=s88) rfl rfl rfl ?_;generalize bZ l=lv at *;simp[-aE,-ax,s88];refine bN Nz.eq_1 (λx:Nat×List (List AV)×List Vd×CK×List AV=>⟨[(0,.val (.ptr pre.length 0 0 0)),(1,.val lv),(5,.val (cq 9 x.2.1)),(6,.val (.int .i64 x.1))],[],pre++[x.2.2.2.1.bO]⟩)
    (λx=>x.1<=l.length/\x.2.1.length=x.1/\(x.2.2.2.1=c.cy x.2.2.1/\nN c.H c.sg.bR c.sg.res x.2.2.1 (l.drop x.1)=.error a/\F3 (c.cy x.2.2.1)/\x.2.2.1.length+Sm.eD (l.drop x.1)<1000000000\/x.2.2.2.1=(c.cy x.2.2.1).fail a))
    (λx=>l.length-x.1) (0,[],c.V,c,[]) rfl ⟨by simp,rfl,.inl ⟨rfl,by simpa using hR,hw,by simpa using eO⟩⟩ ?_
   rintro⟨k,Y,V,d,b⟩ ⟨hk,J,j⟩ K;simp only at hk J j K;by_cases F:k<l.length;have Z:=wk k (by omega);have U:=Oe F;have T:=λo=>Cl F o;rcases j with⟨I,j,E,g⟩|I;subst I;rw[Q7 l k F]at g;have p:=hl l[k] (acH F) (c.cy V) rfl rfl hf E (by show V.length+_<_;omega);unfold HO at p;have P:Au (c.cy V).H (c.cy V).sg.bR (c.cy V).sg.res (c.cy V).V l[k]=Au c.H c.sg.bR c.sg.res V l[k]:=rfl;rw[P]at p;rw[Q6 F]at j;have O:=λm=>iS (pre:=pre) m (c.cy V) [];rw[cz (show (c.cy V).fe=0 from hf)]at O;cases r:Au c.H c.sg.bR c.sg.res V l[k] with
   |error a'=>
    rw[r]at j p;simp only at j p;cases j;obtain⟨W,aI,⟨rk,w,B,z,res,t,rel,ra,n,rfl,q1,q2,q3⟩,p⟩:=p (pre.length+1);have Q:(c.cy V).cy W=c.cy W:=rfl;rw[Q]at p;have ap:=Ls Y [.int .i64 rk,.str w,.str B,.int .i64 z,res.ai,t.ai,rel.ai,.int .i64 ra,.int .i64 n] rfl (by omega);have G:=λb=>K (k+1,Y++[[.int .i64 rk,.str w,.str B,.int .i64 z,res.ai,t.ai,rel.ai,.int .i64 ra,.int .i64 n]],W,(c.cy W).fail a,b) ⟨by simp only;omega,by simp[J],.inr rfl⟩ (by simp only;omega);simp only at G;generalize (c.cy V).bO=o1,((c.cy W).fail a).bO=o2,cq 9 (Y++[[.int .i64 rk,.str w,.str B,.int .i64 z,res.ai,t.ai,rel.ai,.int .i64 ra,.int .i64 n]])=R at *;rw[Sm.aQ l[k]]at p U;simp only[Sm.aQ l[k]]at T;generalize l[k]=x at *;simp[-aE,-ax,cT,F,Z,M,N,hz,L,T,O,p,ap,q1,q2,q3,AV.ai];exact G []
   |ok x=>
    obtain⟨y,W⟩:=x;rw[r]at j p;simp only at j p;obtain⟨w1,w2⟩:=TM l[k] V y W E.V r;have Xt:nN c.H c.sg.bR c.sg.res W (l.drop (k+1))=.error a:=by
     split at j;rename_i h;cases j;exact h;cases j
    have ap:=Ls Y y.aI (by rw[Sm.aQ];rfl) (by omega);have G:=λb=>K (k+1,Y++[y.aI],W,c.cy W,b) ⟨by simp only;omega,by simp[J],.inl ⟨rfl,Xt,Od (W:=W) hw w1 (by omega),by show W.length+Sm.eD (l.drop (k+1))<1000000000;omega⟩⟩ (by simp only;omega);simp only at G;have Q:(c.cy V).cy W=c.cy W:=rfl;rw[Q]at p;generalize (c.cy V).bO=o1,(c.cy W).bO=o2,cq 9 (Y++[y.aI])=R at *;rw[Sm.aQ l[k]]at p U;simp only[Sm.aQ l[k]]at T;rw[Sm.aQ y]at p ap;generalize l[k]=x at *;simp[-aE,-ax,cT,F,Z,M,N,hz,L,T,O,p,ap,AV.ai];exact G []
   subst I;have wR:=λm=>iS (pre:=pre) m ((c.cy V).fail a) [];rw[eX uY]at wR;simp only[Sm.aQ l[k]]at T;rw[Sm.aQ l[k]]at U;have q:∃W,((c.cy V).fail a).bO=((c.cy W).fail a).bO:=⟨V,rfl⟩;generalize ((c.cy V).fail a).bO=o2,l[k]=x at *;simp[-aE,-ax,F,M,N,L,wR,q,AV.ai];have gW:k=l.length:=(by omega);rcases j with⟨I,j,_⟩|I;rw[gW,aep]at j;simp[nN]at j;subst I;have q:∃W,((c.cy V).fail a).bO=((c.cy W).fail a).bO:=⟨V,rfl⟩;generalize ((c.cy V).fail a).bO=o2 at *;simp[-aE,-ax,M,N,L,F,q]
  rw[h3]at D;exact⟨W,v,o,D⟩
theorem xE(s:Sm):∀c:CK,c.fe=0->F3 c->c.V.length+Sm.sz s<1000000000->HO pre c s:=by
 induction s using Sm.Cf with
 |_ s X T=>
  intro c g j K;have q:=Sm.wz s;have Z:=E.lF s.es;cases h:fy c.sg.bR s.k s.es with
  |false=>
   unfold HO;rw[Kc,h];exact λp=>⟨c.V,_,⟨_,_,_,_,_,_,_,_,_,rfl,rfl,rfl,rfl⟩,YC c s p (by omega) h⟩
  |true=>
   have S:∀d:CK,d.H=c.H->d.sg=c.sg->d.fe=0->F3 d->d.V.length+Sm.eD s.bd<1000000000->Sn pre d s.bd:=λd _ _ l m n=>
    pL d s.bd l m n λx o e _ _ G W Y=>X x o e G W Y
   have L:∀d:CK,d.H=c.H->d.sg=c.sg->d.fe=0->F3 d->d.V.length+Sm.eD s.el<1000000000->Sn pre d s.el:=λd _ _ l m n=>
    pL d s.el l m n λx o e _ _ G W Y=>T x o e G W Y
   rcases agD h with k|k|k|k|k|k|k|k|k;exact alV c s g j K k h;exact alW c s g j K k h;exact alQ c s g j K k h;exact alO c s g j K k h;exact alT c s g j K k h S L;exact alS c s g j K k h S;exact alR c s g j K k h;exact alN c s g j K k h;exact alP c s g j K k h
theorem N8(c:CK)(l:List Sm)(g:c.fe=0)(k:F3 c)(K:c.V.length+Sm.eD l<1000000000):Sn pre c l:=
 pL c l g k K λs _ d _ _ h H j=>xE s d h H j
end R9
namespace R9
open Ax Go aO V7 iQ iZ K9
variable {pre:aj}
variable{ah:Nat}{bx:bK}
theorem alZ{wl:Nat}{c:CK}:bz wl ah (.load true 2 false) [.val (.ptr pre.length 0 0 12)] (pre++[c.bO]) bx=some (.val (.agg [.int .i64 c.fe,.int .i64 c.fa]),pre++[c.bO],bx):=by
 simp[CK.bO,cut,AV.ai]
theorem al2{c:CK}{W:List Vd}:bz 0 ah (.store 1) [.val (.ptr pre.length 0 0 11),.val (cq 4 (W.map Vd.aI))] (pre++[c.bO]) bx=some (.none,pre++[(c.cy W).bO],bx):=by
 simp[CK.bO,CK.cy,bu,AV.aB,ay]
def Gc(p:Pg)(g:Sg):CK:=⟨aX p,eu p,g,[],0,0⟩
theorem aq8{wl:Nat}{p:Pg}{g:Sg}{st:aj}:bz wl ah (.box 14) [.val (.agg [aM 2 ((aX p).bJ.map fQ),cG (aX p).az,aM 6 ((aX p).aW.map Sg.aI),.int .i64 (eu p),cq 1 (lX (aX p).rs),.str g.nm,cG g.ps,.bool g.bR,.int .i64 g.res.b,.int .i64 g.res.r,.int .i64 g.res.d,.aF,.int .i64 0,.int .i64 0])] st bx =
  some (.val (.ptr st.length 0 0 0),st++[(Gc p g).bO],bx):=by
 have h:(Gc p g).bO=.rows 0 14 [[aM 2 ((aX p).bJ.map fQ),cG (aX p).az,aM 6 ((aX p).aW.map Sg.aI),.int .i64 (eu p),cq 1 (lX (aX p).rs),.str g.nm,cG g.ps,.bool g.bR,.int .i64 g.res.b,.int .i64 g.res.r,.int .i64 g.res.d,.aF,.int .i64 0,.int .i64 0]]:=by
  simp[CK.bO,Gc,sQ]
 rw[h];simp
open N7 U7 in
theorem KA(wl ah:Nat)(p:Pg)(st:aj)(hg:(lG p).ok)(t:GD.sm (lG p))(eO:∀f∈p.funcs,f.params.length+Sm.eD f.body<1000000000) :
  (aZ S).call wl ah 34 [.agg p.aI] st=some (um p,st):=by
 have em:∀wl ah st,(aZ S).call wl ah 86 [.agg p.aI] st=some (Lr (lG p),st):=λwl ah st=>acL wl ah (lG p) st hg t;have hrn:p.aU.length<1000000000:=by have:=t.aU;rw[xF,aes]at this;exact this
 have hfn:p.funcs.length<1000000000:=by have:=t.funcs;rw[sW,aes]at this;exact this
 have E:∀wl ah st,(aZ S).call wl ah 87 [.agg p.aI] st=some (cq 1 (K9.lX (aX p).rs),st):=λwl ah st=>by
  have:=Rm wl ah (lG p) st hg t.aU;rw[EE]at this;exact this
 refine bE (sf:=s34) rfl rfl (by simp[Pg.aI,AV.aB,AV.aH]) rfl (Q8 p) ?_;unfold um;unfold Lr at em;cases U:ke (lG p) with
 |some a=>
  rw[U]at em;simp only[Ah,fE,fX,Pg.aI]at em ⊢;simp[-aE,-ax,s34,em,ay,AV.ai,aD,aC]
 |none=>
  rw[U,acm]at em;simp only[fE,fX,Pg.aI,qa]at em E ⊢;have t1:bf (aM 2 ((aX p).bJ.map fQ))=true:=bL;have Y:(aM 2 ((aX p).bJ.map fQ)).ai=aM 2 ((aX p).bJ.map fQ):=bU;have t3:bf (aM 6 ((aX p).aW.map Sg.aI))=true:=bL;have Z:(aM 6 ((aX p).aW.map Sg.aI)).ai=aM 6 ((aX p).aW.map Sg.aI):=bU;have t5:cN 6 (aM 6 ((aX p).aW.map Sg.aI))=true:=ji (by simp[cr,Sg.aI]);have t6:aY (aM 6 ((aX p).aW.map Sg.aI))=(aX p).aW.map Sg.aI:=bn;have r1:bf (aM 3 (p.aU.map Rc.aI))=true:=bL;have r2:(aM 3 (p.aU.map Rc.aI)).ai=aM 3 (p.aU.map Rc.aI):=bU;have P:bf (aM 7 (p.funcs.map Fc.aI))=true:=bL;have T:(aM 7 (p.funcs.map Fc.aI)).ai=aM 7 (p.funcs.map Fc.aI):=bU;have f3:cN 7 (aM 7 (p.funcs.map Fc.aI))=true:=ji (by simp[cr,Fc.aI]);have f4:aY (aM 7 (p.funcs.map Fc.aI))=p.funcs.map Fc.aI:=bn;have g1:bf (aM 4 (p.az.map PD.cells))=true:=bL;have g2:(aM 4 (p.az.map PD.cells)).ai=aM 4 (p.az.map PD.cells):=bU;have D:bf (cG (aX p).az)=true:=iD;have G:(cG (aX p).az).ai=cG (aX p).az:=lu;have N:bf (cq 1 (K9.lX (aX p).rs))=true:=dM;have m:=λwl ah g st bx=>aq8 (wl:=wl) (ah:=ah) (p:=p) (g:=g) (st:=st) (bx:=bx);have jY:(aX p).aW.length=p.funcs.length:=by simp[aX]
  have w:∀g:Sg,g∈(aX p).aW->F3 ((Gc p g).cy g.ps):=λg YG=>by
   have Jy:=V4 p;have Zc:(gR p).length=p.aU.length:=(by simp[gR]);have Sh:(aX p).az.length<1000000000:=(by have:=t.az;rw[Oa]at this;simpa [aX,o9] using this);have U:∀s∈(aX p).bJ,s.2.length<1000000000:=λs hs=>by
    obtain⟨r,hr,rfl⟩:=List.mem_map.1 hs;have:=t.cF (Q2 r) (by rw[xF];exact al5 hr);simpa [Q2,sV,o9] using this
   have hP:∀s∈(aX p).aW,s.ps.length<1000000000:=λs hs=>by
    obtain⟨r,hr,rfl⟩:=List.mem_map.1 hs;have:=t.params (HP r) (by rw[sW];exact al5 hr);simpa [HP,sV,Bh,o9] using this
   refine⟨⟨hP g YG,Sh,?_,?_,U,hP⟩,Jy,(Jy.aW g YG).2⟩;show (aX p).aW.length<_;rw[jY];exact hfn;show (gR p).length<_;rw[Zc];exact hrn
  generalize hHS:aM 2 ((aX p).bJ.map fQ)=HS at *;generalize hHG:aM 6 ((aX p).aW.map Sg.aI)=HG at *;generalize hGL:cG (aX p).az=GL at *;generalize aM 3 (p.aU.map Rc.aI)=PR,aM 7 (p.funcs.map Fc.aI)=PF,aM 4 (p.az.map PD.cells)=PG,cq 1 (K9.lX (aX p).rs)=NM at *;simp[-aE,-ax,s34,em,t1,Y,t3,Z,r1,r2,P,T,g1,g2,D,G,ay,AV.ai];refine bN aa4.eq_1 (λx:Nat×List Bd×aj=>⟨[(1,.fp 0 0),(2,.fp 1 0),(3,.fp 2 0),(4,.fp 3 0),(6,.fp 5 0),(7,.val (.int .i64 x.1))],
    [[PR,PG,PF],[.aF,.aF,.aF,.int .i64 0,.aF],[.int .i64 0,.int .i64 0],[HS,GL,HG,.int .i64 (eu p)],[.int .i64 0,.int .i64 0],[HS,GL,HG,.int .i64 (eu p),cq 3 (x.2.1.map Bd.aI)]],x.2.2⟩)
    (λx=>x.1<=p.funcs.length/\x.2.1.length=x.1/\Yp x.2.1 (qJ (aX p) ((aX p).aW.drop x.1) (p.funcs.drop x.1))=qJ (aX p) (aX p).aW p.funcs)
    (λx=>p.funcs.length-x.1) (0,[],[]) (by simp[sQ]) ⟨by simp,rfl,by simp[Yp];split<;>rename_i h<;>exact h.symm⟩ ?_
  rintro⟨k,bs,R⟩ ⟨hk,F,n⟩ ih;simp only at hk F n ih;by_cases M:k<p.funcs.length;have zi:k<(aX p).aW.length:=by omega
  have CO:=wk k (by omega);have z:∀h:k<(p.funcs.map Fc.aI).length,(p.funcs.map Fc.aI)[k]=[.str p.funcs[k].name,aM 4 (p.funcs[k].params.map PD.cells),.bool p.funcs[k].bR,.str p.funcs[k].on,.int .i64 p.funcs[k].od,bZ p.funcs[k].body,.int .i64 p.funcs[k].a]:=λh=>by simp[Fc.aI]
  have Sr:∀h:k<((aX p).aW.map Sg.aI).length,((aX p).aW.map Sg.aI)[k]=[.str (aX p).aW[k].nm,cG (aX p).aW[k].ps,.bool (aX p).aW[k].bR,.int .i64 (aX p).aW[k].res.b,.int .i64 (aX p).aW[k].res.r,.int .i64 (aX p).aW[k].res.d]:=λh=>by simp[Sg.aI]
  rw[acn zi M]at n;have hps:(aX p).aW[k].ps.length=p.funcs[k].params.length:=by simp[aX,Bh,o9]
  have Q:=acH zi;have l:=N8 (pre:=R) ((Gc p (aX p).aW[k]).cy (aX p).aW[k].ps) p.funcs[k].body rfl (w _ Q) (by
   have:=eO _ (acH M);show (aX p).aW[k].ps.length+_<_;rw[hps];exact this)
  unfold Sn at l;have hcd:nN ((Gc p (aX p).aW[k]).cy (aX p).aW[k].ps).H ((Gc p (aX p).aW[k]).cy (aX p).aW[k].ps).sg.bR ((Gc p (aX p).aW[k]).cy (aX p).aW[k].ps).sg.res ((Gc p (aX p).aW[k]).cy (aX p).aW[k].ps).V p.funcs[k].body=nN (aX p) (aX p).aW[k].bR (aX p).aW[k].res (aX p).aW[k].ps p.funcs[k].body:=rfl;rw[hcd]at l;have sR:∀O:List AV,O.length=3->v8 3 56 (cq 3 (bs.map Bd.aI)) [O]=some (cq 3 (bs.map Bd.aI++[O])):=λO hc=>gP (by simp[cr,hc]) (by simp[cZ];omega);have MU:(aX p).aW[k].ps.length<1000000000:=(w _ Q).s.V;have Dq:v8 4 40 .aF ((aX p).aW[k].ps.map Vd.aI)=some (cq 4 ((aX p).aW[k].ps.map Vd.aI)):=by
   have:=gP (sz:=4) (bytes:=40) (r:=[]) (new:=(aX p).aW[k].ps.map Vd.aI) (by simp[cr,Vd.aI]) (by simp[cZ];omega);exact this
  have ep:=λah bx=>al2 (pre:=R) (ah:=ah) (c:=Gc p (aX p).aW[k]) (W:=(aX p).aW[k].ps) (bx:=bx);have m:=λwl ah bx=>m wl ah (aX p).aW[k] R bx;have bd1:bf (bZ p.funcs[k].body)=true:=cQ;have B:(bZ p.funcs[k].body).ai=bZ p.funcs[k].body:=bQ;have ps1:bf (aM 4 (p.funcs[k].params.map PD.cells))=true:=bL;have ps2:(aM 4 (p.funcs[k].params.map PD.cells)).ai=aM 4 (p.funcs[k].params.map PD.cells):=bU;have J:bf (cG (aX p).aW[k].ps)=true:=iD;have K:(cG (aX p).aW[k].ps).ai=cG (aX p).aW[k].ps:=lu;have L:aY (cG (aX p).aW[k].ps)=(aX p).aW[k].ps.map Vd.aI:=sA;have Av:∀W,((Gc p (aX p).aW[k]).cy (aX p).aW[k].ps).cy W=(Gc p (aX p).aW[k]).cy W:=λ_=>rfl;have m1:bf (cq 4 ((aX p).aW[k].ps.map Vd.aI))=true:=dM;generalize hrS:(aX p).aW.map Sg.aI=RS at *;generalize hrF:p.funcs.map Fc.aI=RF at *;have o:k<RS.length:=by rw[<-hrS,aes];exact zi
  have q:k<RF.length:=by rw[<-hrF,aes];exact M
  have YH:=Sr o;have y:=z q;clear Sr z;cases X:nN (aX p) (aX p).aW[k].bR (aX p).aW[k].res (aX p).aW[k].ps p.funcs[k].body with
  |error a=>
   rw[X]at n l;simp only at n l;obtain⟨W,v,w1,j⟩:=l 0;rw[Av]at j;clear l;have wR:=λah=>iS (pre:=R) ah (((Gc p (aX p).aW[k]).cy W).fail a) [];rw[eX uY]at wR;have I:=λwl ah bx=>alZ (pre:=R) (wl:=wl) (ah:=ah) (c:=((Gc p (aX p).aW[k]).cy W).fail a) (bx:=bx);have Fp:(((Gc p (aX p).aW[k]).cy W).fail a).fe=3/\(((Gc p (aX p).aW[k]).cy W).fail a).fa=a:=⟨rfl,rfl⟩;rw[Fp.1,Fp.2]at I;rw[<-n];simp only[EF];have w2:bf v.ai=true:=(by rw[vq];exact w1);have w3:v.ai.ai=v.ai:=vr v;generalize (((Gc p (aX p).aW[k]).cy W).fail a).bO=o3,((Gc p (aX p).aW[k]).cy (aX p).aW[k].ps).bO=o2,(Gc p (aX p).aW[k]).bO=o1,cq 4 ((aX p).aW[k].ps.map Vd.aI)=M4,bZ p.funcs[k].body=PB,aM 4 (p.funcs[k].params.map PD.cells)=PP,cG (aX p).aW[k].ps=SP at *;generalize p.funcs[k]=fk,(aX p).aW[k]=gk at *;simp[-aE,-ax,cT,E,m,ep,Dq,j,wR,I,P,T,f3,f4,Y,Z,t5,t6,G,r2,g2,N,y,YH,o,q,B,J,K,L,aD,aC,ay,AV.ai]
  |ok x=>
   obtain⟨C,W⟩:=x;rw[X]at n l;simp only at n l;have j:=λah=>l ah;clear l;simp only[Av]at j;have mT:=λah=>iS (pre:=R) ah ((Gc p (aX p).aW[k]).cy W) [];rw[cz (show ((Gc p (aX p).aW[k]).cy W).fe=0 from rfl)]at mT;have Pk:=λwl ah bx=>acM (pre:=R) (wl:=wl) (ah:=ah) (c:=(Gc p (aX p).aW[k]).cy W) (r:=[]) (bx:=bx);have hvW:((Gc p (aX p).aW[k]).cy W).V=W:=rfl;rw[hvW]at Pk;have gZ:=ih (k+1,bs++[⟨W,C,p.funcs[k].a⟩],R++[((Gc p (aX p).aW[k]).cy W).bO]) ⟨by simp only;omega,by simp[F],n⟩ (by simp only;omega);simp only[List.map_append,List.map_cons,List.map_nil,Bd.aI]at gZ;have w1:bf (cG W)=true:=iD;have w2:(cG W).ai=cG W:=lu;have ap:=sR [cG W,bZ C,.int .i64 p.funcs[k].a] rfl;have c1:bf (cq 9 (Sm.rows C))=true:=dM;have c2:(cq 9 (Sm.rows C)).ai=bZ C:=rfl;have c5:bf (bZ C)=true:=cQ;have c6:(bZ C).ai=bZ C:=bQ;have n1:bf (cq 3 (bs.map Bd.aI++[[cG W,bZ C,.int .i64 p.funcs[k].a]]))=true:=dM;generalize cG W=FW,cq 9 (Sm.rows C)=MC,bZ C=SC,((Gc p (aX p).aW[k]).cy W).bO=o3,((Gc p (aX p).aW[k]).cy (aX p).aW[k].ps).bO=o2,(Gc p (aX p).aW[k]).bO=o1,cq 4 ((aX p).aW[k].ps.map Vd.aI)=M4,bZ p.funcs[k].body=PB,aM 4 (p.funcs[k].params.map PD.cells)=PP,cG (aX p).aW[k].ps=SP at *;generalize cq 3 (bs.map Bd.aI++[[FW,SC,.int .i64 p.funcs[k].a]])=BN at *;generalize cq 3 (bs.map Bd.aI)=BL,p.funcs[k]=fk,(aX p).aW[k]=gk at *;simp[-aE,-ax,cT,CO,E,m,ep,Dq,j,mT,Pk,ap,P,T,f3,f4,Y,Z,t5,t6,G,r2,g2,N,y,YH,o,q,B,J,K,L,w1,w2,c1,c2,c5,n1,aD,aC,ay,AV.ai];exact gZ
  have gW:k=p.funcs.length:=by omega
  have X:qJ (aX p) (aX p).aW p.funcs=.ok bs:=by
   rw[<-n,gW,aep,<-jY,aep];simp[qJ,Yp]
  rw[X];have n1:bf (cq 3 (bs.map Bd.aI))=true:=dM;have n2:(cq 3 (bs.map Bd.aI)).ai=aM 3 (bs.map Bd.aI):=rfl;have n4:bf (aM 3 (bs.map Bd.aI))=true:=bL;simp only[EF,qa];rw[hHS,hHG,hGL];generalize cq 3 (bs.map Bd.aI)=BL,aM 3 (bs.map Bd.aI)=BV at *;simp[-aE,-ax,M,P,T,f4,t1,Y,t3,Z,D,G,n2,n4,ay,AV.ai]
end R9
