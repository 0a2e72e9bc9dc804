/- Part of a proof. -/
import Derived.Test.YtgblgbgjmgjfkaaGreatF
import Derived.Test.YtgblgbgjmgjfkaaGreatT

open List renaming length->Q
open Option renaming some->Z,none->K
open Bool renaming true->Y,false->X
open Decidable renaming decide->V
open List renaming drop_length->aaF,getElem_mem->aah,length_map->adW,mem_map_of_mem->aki
set_option maxRecDepth 100000
set_option maxHeartbeats 8000000
namespace R9
open Ax Go aM V7 jb jn K9
variable {pre:aO}
theorem gJ{s:Sm}:bn (bL s.es)=Y/\bn (cn s.bd)=Y/\bn (cn s.el)=Y:=⟨cu,cW,cW⟩
theorem Zv(c:CK)(s:Sm)(g)(H:Q s.es<1000000000)(h:fL c.sg.bY s.k s.es=X):
  (bh S).call 0 g 134 [.ptr (Q pre) 0 0 0,.agg s.aK] (pre++[c.bX])=Z (.agg [.int .i64 s.k,.str [],.str [],.int .i64 0,.aF,.aF,.aF,.int .i64 s.a,.int .i64 0],pre++[(c.fail s.a).bX]):=by
 have z:=λg=>Dg (pre:=pre) g c s [] H;have B:=λg=>mC (pre:=pre) g c s.a [];rw[h]at z;obtain⟨E,j,L⟩:=gJ (s:=s);have r:(bL s.es).aj=bL s.es:=ck;have l:(cn s.bd).aj=cn s.bd:=bZ;have q:(cn s.el).aj=cn s.el:=bZ;rw[Sm.aU]at *;generalize bL s.es=m,cn s.bd=W,cn s.el=n,(c.fail s.a).bX=p,c.bX=o at *;refine aG (sf:=jt) rfl rfl rfl ?_;simp[-aE,-az,jt,z,B,E,j,L,r,l,q,aB,AV.aj]
theorem Nk(c)(s:Sm)(ai)(x:FA c)(v:Q s.es<1000000000)(h:fL c.sg.bY s.k s.es=Y)(g:sR c.H s.k s.on s.od=K):
  (bh S).call 0 ai 134 [.ptr (Q pre) 0 0 0,.agg s.aK] (pre++[c.bX])=Z (.agg [.int .i64 s.k,.str [],.str [],.int .i64 0,.aF,.aF,.aF,.int .i64 s.a,.int .i64 0],pre++[(c.fail s.a).bX]):=by
 have z:=λai=>Dg (pre:=pre) ai c s [] v;have B:=λai=>mC (pre:=pre) ai c s.a [];rw[h]at z;obtain⟨E,m,L⟩:=gJ (s:=s);have p:(bL s.es).aj=bL s.es:=ck;have n:(cn s.bd).aj=cn s.bd:=bZ;have q:(cn s.el).aj=cn s.el:=bZ;have C:=λwl ai st=>Pk wl ai c.H.rs s.on s.od st x.R;have w:=λwl ai bx=>anb (pre:=pre) (wl:=wl) (ai:=ai) (c:=c) (r:=[]) (bx:=bx);rw[Sm.aU]at *;generalize bL s.es=y,cn s.bd=W,cn s.el=D,(c.fail s.a).bX=O,c.bX=o at *;unfold sR at g;by_cases l:s.k=1;rw[af (.inl l)]at g;have j:(dz c.H.rs s.on s.od).2=X:=by
  cases N:(dz c.H.rs s.on s.od).2 with
  |false=>rfl|true=>rw[N]at g;cases g
 unfold tyV at C;rw[j]at C;refine aG (sf:=jt) rfl rfl rfl ?_;have l:(s.k=1)=True:=eq_true l;simp[-aE,-az,jt,z,B,l,w,C,E,m,L,p,n,q,bF,bP,aB,AV.aj];by_cases j:s.k=2;rw[af (.inr j)]at g;have t:(dz c.H.rs s.on s.od).2=X:=by
  cases N:(dz c.H.rs s.on s.od).2 with
  |false=>rfl|true=>rw[N]at g;cases g
 unfold tyV at C;rw[t]at C;refine aG (sf:=jt) rfl rfl rfl ?_;have j:(s.k=2)=True:=eq_true j;simp[-aE,-az,jt,z,B,l,j,w,C,E,m,L,p,n,q,bF,bP,aB,AV.aj];rw[ah]at g;cases g
def jK:aW:=j7 (j7 (j7 (j7 (j7 (j7 (j7 jt.body))))))
theorem Zx(c)(s:Sm)(ai t)(D:FA c)(y:Q s.es<1000000000)(h:fL c.sg.bY s.k s.es=Y)(n:s.k=1\/s.k=2)(j:sR c.H s.k s.on s.od=Z t){q}(go:W S 0 (Q pre+1) jt.results q [.code (.loop rV),.lz 0,.code jK] .normal
   ⟨[(0,.val (.ptr (Q pre) 0 0 0)),(3,.fp 0 0),(4,.fp 1 0),(5,.fp 2 0),(6,.fp 3 0),(7,.val (.bool Y)),(10,.val (.int .i64 0))],[s.aK,Z9,[.int .i64 s.k,.str [],.str s.on,.int .i64 s.od,.aF,.aF,.aF,.int .i64 s.a,.int .i64 0],t.cells,t.cells,[]],pre++[c.bX]⟩):
  W S (jt.mode.BC (Q (pre++[c.bX])) 0) (jt.mode.uk (Q (pre++[c.bX])) ai) jt.results q [.code jt.body] .normal (vz jt [.ptr (Q pre) 0 0 0,.agg s.aK] (pre++[c.bX])):=by
 have z:=λai=>Dg (pre:=pre) ai c s [] y;rw[h]at z;obtain⟨E,B,L⟩:=gJ (s:=s);have m:(bL s.es).aj=bL s.es:=ck;have l:(cn s.bd).aj=cn s.bd:=bZ;have p:(cn s.el).aj=cn s.el:=bZ;have C:=λwl ai st=>Pk wl ai c.H.rs s.on s.od st D.R;have w:=λwl ai bx=>anb (pre:=pre) (wl:=wl) (ai:=ai) (c:=c) (r:=[]) (bx:=bx);rw[Sm.aU]at *;generalize bL s.es=G,cn s.bd=F,cn s.el=I,c.bX=o at *;unfold sR at j;rw[af n]at j;split at j;rename_i x;cases j;unfold tyV at C;rw[x]at C;generalize (dz c.H.rs s.on s.od).1=t at *;rcases n with g|g;have g:(s.k=1)=True:=eq_true g;simp[-aE,-az,jt,z,g,w,C,E,B,L,m,l,p,bF,bP,aB,AV.aj];exact go;have v:¬s.k=1:=by omega
 have g:(s.k=2)=True:=eq_true g;simp[-aE,-az,jt,z,v,g,w,C,E,B,L,m,l,p,bF,bP,aB,AV.aj];exact go;cases j
theorem Nl(c:CK)(s:Sm)(g)(n:Q s.es<1000000000)(h:fL c.sg.bY s.k s.es=Y)(m:¬(s.k=1\/s.k=2)){q}(go:W S 0 (Q pre+1) jt.results q [.code (.loop rV),.lz 0,.code jK] .normal
   ⟨[(0,.val (.ptr (Q pre) 0 0 0)),(3,.fp 0 0),(4,.fp 1 0),(5,.fp 2 0),(6,.fp 3 0),(7,.val (.bool X)),(10,.val (.int .i64 0))],[s.aK,Z9,[.int .i64 s.k,.str [],.str [],.int .i64 0,.aF,.aF,.aF,.int .i64 s.a,.int .i64 0],T0.cells,[],[]],pre++[c.bX]⟩):
  W S (jt.mode.BC (Q (pre++[c.bX])) 0) (jt.mode.uk (Q (pre++[c.bX])) g) jt.results q [.code jt.body] .normal (vz jt [.ptr (Q pre) 0 0 0,.agg s.aK] (pre++[c.bX])):=by
 have z:=λg=>Dg (pre:=pre) g c s [] n;rw[h]at z;obtain⟨E,B,L⟩:=gJ (s:=s);have r:(bL s.es).aj=bL s.es:=ck;have j:(cn s.bd).aj=cn s.bd:=bZ;have p:(cn s.el).aj=cn s.el:=bZ;rw[Sm.aU]at *;generalize bL s.es=v,cn s.bd=t,cn s.el=w,c.bX=o at *;have H:¬s.k=1:=λe=>m (.inl e);have l:¬s.k=2:=λe=>m (.inr e);simp[-aE,-az,jt,z,H,l,E,B,L,r,j,p,aB,AV.aj];exact go
end R9
namespace R9
open Ax Go aM V7 jb jn K9
variable {pre:aO}
def DJ(H:Hd)(bY:Bool)(res:T3)(v:List Vd)(s:Sm)(y:List E)(t:T3):Except Int (Sm×List Vd):=match qk H res v s.k s.nm y t with
 |none=>.error s.a|some (r,W)=>if s.k=5 then
   match pe H bY res W s.bd with
   |.error x=>.error x|.ok (b,w)=>match pe H bY res w s.el with
    |.error x=>.error x|.ok (c,g)=>.ok (.mk s.k (n7 s.k s.nm) (gD s.k s.on) (gG s.k s.od) y b c s.a r,g)
  else if s.k=6 then
   match pe H bY res W s.bd with
   |.error x=>.error x|.ok (b,w)=>.ok (.mk s.k (n7 s.k s.nm) (gD s.k s.on) (gG s.k s.od) y b [] s.a r,w)
  else .ok (.mk s.k (n7 s.k s.nm) (gD s.k s.on) (gG s.k s.od) y [] [] s.a r,W)
def TQ(pre:aO)(Q:Ex->St->Prop)(s:Sm)(ev:AV)(o:iW)(O:Bool)(D:List UInt8)(U:Int)(p M:List AV):Prop:=
 W S 0 (pre.length+1) jt.results Q [.code jK] .normal
  ⟨[(0,.val (.ptr pre.length 0 0 0)),(3,.fp 0 0),(4,.fp 1 0),(5,.fp 2 0),(6,.fp 3 0),(7,.val (.bool O))],[s.aK,Z9,[.int .i64 s.k,.str [],.str D,.int .i64 U,ev,.aF,.aF,.int .i64 s.a,.int .i64 0],p,M,[]],pre++[o]⟩
def TG(pre:aO)(c:CK)(s:Sm)(ev:AV)(o:iW)(O:Bool)(D:List UInt8)(U:Int)(p M:List AV)(v:AV)(st:aO):Prop:=TQ pre (IA jt.results .nC (pre++[c.bX]) (v,st)) s ev o O D U p M
theorem UT(c s a ev O D U p M)(H:bn ev=Y):
  TG pre c s ev (c.fail a).bX O D U p M (.agg [.int .i64 s.k,.str [],.str D,.int .i64 U,ev.aj,.aF,.aF,.int .i64 s.a,.int .i64 0]) (pre++[(c.fail a).bX]):=by
 unfold TG TQ;have G:=vR (c:=c) (a:=a);have y:=λg=>jj (pre:=pre) g (c.fail a) [];rw[eX G]at y;generalize (c.fail a).bX=o at *;have h:bn ev.aj=Y:=by rw[GK];exact H
 have j:ev.aj.aj=ev.aj:=zi ev;generalize s.aK=l at *;simp[-aE,-az,jK,j7,jt,y,h,aB,AV.aj]
theorem ua(c s)(w:c.fe=0)(P:G7 c)(fM:c.V.length+Sm.sz s<1000000000)(h:fL c.sg.bY s.k s.es=Y)(t)(N:sR c.H s.k s.on s.od=Z t)(B:∀j,Bq c.H c.V s.k s.es=.ok j->match DJ c.H c.sg.bY c.sg.res c.V s j t with
   |.ok (y,W)=>TG pre c s (cw 11 (E.rows j)) c.bX (V (s.k=1\/s.k=2)) (gD s.k s.on) (gG s.k s.od) (if s.k=1\/s.k=2 then t.cells else T0.cells) (if s.k=1\/s.k=2 then t.cells else []) (.agg y.aK) (pre++[(c.cG W).bX])|.error a=>∃W n,O3 n/\TG pre c s (cw 11 (E.rows j)) c.bX (V (s.k=1\/s.k=2)) (gD s.k s.on) (gG s.k s.od) (if s.k=1\/s.k=2 then t.cells else T0.cells) (if s.k=1\/s.k=2 then t.cells else []) (.agg n) (pre++[((c.cG W).fail a).bX])):II pre c s:=by
 have g:=Sm.w9 s;have hel:=E.mq s.es;have O:∀x∈s.es,OkX pre c x:=λx hx=>nO c w P x (by have:=E.sw hx;omega);have mT:c.cG c.V=c:=rfl;have C:Br c.H c.sg.bY c.sg.res c.V s=match Bq c.H c.V s.k s.es with
   |.error x=>.error x|.ok j=>DJ c.H c.sg.bY c.sg.res c.V s j t:=by rw[KW,af h,N];rfl
 unfold II;rw[C];have key:∀ai (Q:Ex->St->Prop),(∀j,Bq c.H c.V s.k s.es=.ok j->TQ pre Q s (cw 11 (E.rows j)) c.bX (V (s.k=1\/s.k=2)) (gD s.k s.on) (gG s.k s.od) (if s.k=1\/s.k=2 then t.cells else T0.cells) (if s.k=1\/s.k=2 then t.cells else []))->
   (∀a ev,bn ev=Y->Bq c.H c.V s.k s.es=.error a->TQ pre Q s ev (c.fail a).bX (V (s.k=1\/s.k=2)) (gD s.k s.on) (gG s.k s.od) (if s.k=1\/s.k=2 then t.cells else T0.cells) (if s.k=1\/s.k=2 then t.cells else []))->
   W S (jt.mode.BC (pre++[c.bX]).length 0) (jt.mode.uk (pre++[c.bX]).length ai) jt.results Q [.code jt.body] .normal (vz jt [.ptr pre.length 0 0 0,.agg s.aK] (pre++[c.bX])):=by
  intro ai Q G z;unfold TQ at G z;by_cases m:s.k=1\/s.k=2;have o:s.k≠9:=by omega
  have l:Bq c.H c.V s.k s.es=sK c.H c.V s.es:=U o;have F:gD s.k s.on=s.on:=af m;have I:gG s.k s.od=s.od:=af m;simp only[af m,cH m,F,I,l]at G z;exact Zx c s ai t P.s (by omega) h m N (Xj c s w (by omega) o O _ _ _ _ _ _ _ _ _ _ _ _ _ rfl G z);have F:gD s.k s.on=[]:=U m;have I:gG s.k s.od=0:=U m;simp only[U m,eX m,F,I]at G z;by_cases o:s.k=9;obtain⟨e,p⟩:∃e,s.es=[e]:=by
   rw[o]at h;unfold fL at h;rw[U (by decide),U (by decide),U (by decide),af rfl]at h;match hh:s.es,h with
   |[e],_=>exact⟨e,rfl⟩
  have l:Bq c.H c.V s.k s.es=match yU c.H c.V e with
    |.error x=>.error x|.ok y=>.ok [y]:=by unfold Bq;rw[af o,p];rfl
  rw[l]at G z;exact Nl c s ai (by omega) h m (ah4 c s e w o p (O e (by rw[p];exact List.mem_cons_self)) _ _ _ _ _ _ _ _ _ _ _ _ _ rfl
   (λy D=>G [y] (by rw[D])) (λa ev L D=>z a ev L (by rw[D])))
  have l:Bq c.H c.V s.k s.es=sK c.H c.V s.es:=U o;rw[l]at G z;exact Nl c s ai (by omega) h m (Xj c s w (by omega) o O _ _ _ _ _ _ _ _ _ _ _ _ _ rfl G z)
 cases q:Bq c.H c.V s.k s.es with
 |error a=>
  simp only;intro ai;obtain⟨v,r,R,n,T,h3,h4⟩:∃v r,(bh S).call 0 ai 134 [.ptr pre.length 0 0 0,.agg s.aK] (pre++[c.bX])=Z (v,r)/\∃n,O3 n/\v=.agg n/\r=pre++[(c.fail a).bX]:=by
   refine ki (sf:=jt) rfl rfl rfl (key ai _ (λj g=>by rw[q]at g;cases g) λa' ev L g=>?_);rw[q]at g;cases g;have M:=UT (pre:=pre) c s a ev (V (s.k=1\/s.k=2)) (gD s.k s.on) (gG s.k s.od) (if s.k=1\/s.k=2 then t.cells else T0.cells) (if s.k=1\/s.k=2 then t.cells else []) L;unfold TG TQ at M;unfold TQ;obtain⟨x',s',G,z⟩:=M;exact⟨x',s',G,_,z,_,⟨_,_,_,_,_,_,_,_,_,rfl,by rw[GK];exact L,rfl,rfl⟩,rfl,rfl⟩
  subst h3 h4;exact⟨c.V,n,T,R⟩
 |ok j=>
  simp only;have B:=B j q;cases J:DJ c.H c.sg.bY c.sg.res c.V s j t with
  |ok x=>
   obtain⟨y,W⟩:=x;rw[J]at B;simp only at B ⊢;intro ai;exact aG (sf:=jt) rfl rfl rfl (key ai _ (λzs g=>by rw[q]at g;cases g;exact B) λa ev _ g=>by rw[q]at g;cases g)
  |error a=>
   rw[J]at B;simp only at B ⊢;intro ai;obtain⟨W,n,hb,B⟩:=B;exact⟨W,n,hb,aG (sf:=jt) rfl rfl rfl (key ai _ (λzs g=>by rw[q]at g;cases g;exact B) λa ev _ g=>by rw[q]at g;cases g)⟩
end R9
namespace R9
open Ax Go aM V7 jb jn K9
variable {pre:aO}
theorem Dh{E g H v}(h:Q E=1)(j:sK H v E=.ok g):∃y,g=[y]:=by
 have:=oD j;match g,this with
 |[y],_=>grind|[],p=>grind|_::_::_,p=>grind
theorem ah5{E g H v}(h:Q E=2)(j:sK H v E=.ok g):∃y z,g=[y,z]:=by
 have:=oD j;match g,this with
 |[y,z],_=>grind|[],p=>grind|[_],p=>grind|_::_::_::_,p=>grind
theorem qG(k N O o E B m a ref):(Sm.mk k N O o E B m a ref).aK=[.int .i64 k,.str N,.str O,.int .i64 o,bL E,cn B,cn m,.int .i64 a,.int .i64 ref]:=Sm.aU _
theorem vY:cn []=.aF:=rfl
theorem anh(c s)(g:c.fe=0)(l:G7 c)(O:Q c.V+Sm.sz s<1000000000)(m:s.k=8)(h:fL c.sg.bY s.k s.es=Y):II pre c s:=by
 refine ua c s g l O h T0 (by rw[m];rfl) λys p=>?_;have G:Bq c.H c.V s.k s.es=sK c.H c.V s.es:=ah;rw[G]at p;rw[m]at h;obtain⟨y,rfl⟩:=Dh (by simpa [fL] using h) p;have t:=λai=>jj (pre:=pre) ai c [];rw[cH g]at *;have j:=λwl ai st=>dX wl ai st;have B:=λai=>mC (pre:=pre) ai c s.a [];have eV:=λai=>mD (pre:=pre) ai c s.nm [] l.s;have J:=λwl ai bx=>FM (pre:=pre) (wl:=wl) (ai:=ai) (c:=c) (r:=[]) (bx:=bx);have N:=λwl ai bx=>Il (pre:=pre) (wl:=wl) (ai:=ai) (c:=c) (r:=[]) (bx:=bx);have ⟨T,R,l1⟩:=gJ (s:=s);have S:(cn s.bd).aj=cn s.bd:=bZ;have l2:(cn s.el).aj=cn s.el:=bZ;have m1:bn (cw 11 (E.rows [y]))=Y:=ey;have P:(cw 11 _).aj=bL [y]:=rfl;have m3:bf (cw 11 (E.rows [y]))=[y.aK]:=rfl;have m4:cU 11 (cw 11 (E.rows [y]))=Y:=by simp[E.rows,cy,E.aU]
 have v1:bn (bL [y])=Y:=cu;have v2:(bL [y]).aj=bL _:=ck;have v:bf (bL [y])=[y.aK]:=rfl;have v4:cU 11 (bL [y])=Y:=ox;have n:c.cG c.V=c:=rfl;have x:(V ((8:Int)=1\/(8:Int)=2))=X:=by decide
 have z:¬((8:Int)=1\/(8:Int)=2):=by decide
 have C:gD 8 s.on=[]:=rfl;have D:gG 8 s.od=0:=rfl;have w:DJ c.H c.sg.bY c.sg.res c.V s [y] T0=if y.ty=tI then .ok (.mk 8 [] [] 0 [y] [] [] s.a 0,c.V) else .error s.a:=by
  unfold DJ qk;simp only[m];by_cases q:y.ty=tI;all_goals grind [Fs,n7]
 rw[w,m];rw[C,D,x,U z,U z];rw[E.aU]at *;by_cases q:y.ty=tI;rw[af q];simp only;unfold TG TQ;rw[qG,Sm.aU,m,n,vY];generalize cw 11 _=M,bL [y]=I,bL s.es=F,cn s.bd=W,cn s.el=L,c.bX=o at *;simp[-aE,-az,cZ,jK,j7,jt,t,j,q,P,v1,v,v4,aA,ay,aB,AV.aj];rw[U q];simp only;refine⟨c.V,[.int .i64 8,.str [],.str [],.int .i64 0,bL _,.aF,.aF,.int .i64 s.a,.int .i64 0],⟨_,_,_,_,_,_,_,_,_,rfl,v1,rfl,rfl⟩,?_⟩;unfold TG TQ;rw[Sm.aU,m,n];generalize cw 11 _=M,bL [y]=I,bL s.es=F,cn s.bd=W,cn s.el=L,(c.fail s.a).bX=o2,c.bX=o at *;simp[-aE,-az,cZ,jK,j7,jt,t,j,K9.dI,q,B,P,v1,v,v4,aA,ay,aB,AV.aj]
theorem ani(c s)(g:c.fe=0)(j:G7 c)(O:Q c.V+Sm.sz s<1000000000)(m:s.k=4)(h:fL c.sg.bY s.k s.es=Y):II pre c s:=by
 refine ua c s g j O h T0 (by rw[m];rfl) λys p=>?_;have G:Bq c.H c.V s.k s.es=sK c.H c.V s.es:=ah;rw[G]at p;rw[m]at h;obtain⟨y,z,rfl⟩:=ah5 (by
  unfold fL at h
  grind) p
 have n:=λai=>jj (pre:=pre) ai c [];rw[cH g]at *;have B:=λai=>mC (pre:=pre) ai c s.a [];have eV:=λai=>mD (pre:=pre) ai c s.nm [] j.s;have J:=λwl ai bx=>FM (pre:=pre) (wl:=wl) (ai:=ai) (c:=c) (r:=[]) (bx:=bx);have N:=λwl ai bx=>Il (pre:=pre) (wl:=wl) (ai:=ai) (c:=c) (r:=[]) (bx:=bx);have ⟨T,R,l1⟩:=gJ (s:=s);have S:(cn s.bd).aj=cn s.bd:=bZ;have l2:(cn s.el).aj=cn s.el:=bZ;have m1:bn (cw 11 (E.rows [y,z]))=Y:=ey;have P:(cw 11 _).aj=bL [y,z]:=rfl;have m3:bf (cw 11 (E.rows [y,z]))=[y.aK,z.aK]:=rfl;have m4:cU 11 (cw 11 (E.rows [y,z]))=Y:=by simp[E.rows,cy,E.aU]
 have v1:bn (bL [y,z])=Y:=cu;have v2:(bL [y,z]).aj=bL _:=ck;have v:bf (bL [y,z])=[y.aK,z.aK]:=rfl;have v4:cU 11 (bL [y,z])=Y:=ox;have l:c.cG c.V=c:=rfl;have x:(V ((4:Int)=1\/(4:Int)=2))=X:=by decide
 have t:¬((4:Int)=1\/(4:Int)=2):=by decide
 have C:gD 4 s.on=[]:=rfl;have D:gG 4 s.od=0:=rfl;have w:DJ c.H c.sg.bY c.sg.res c.V s [y,z] T0=if y.ty=z.ty then .ok (.mk 4 [] [] 0 [y,z] [] [] s.a 0,c.V) else .error s.a:=by
  unfold DJ qk
  grind [Fs,LJ,n7]
 rw[w,m];rw[C,D,x,U t,U t];rw[E.aU,E.aU]at *;by_cases q:y.ty=z.ty;rw[af q];have q:=eq_true q;simp only;unfold TG TQ;rw[qG,Sm.aU,m,l,vY];generalize cw 11 _=M,bL [y,z]=I,bL s.es=F,cn s.bd=W,cn s.el=L,c.bX=o at *;simp[-aE,-az,cZ,jK,j7,jt,n,dU,q,P,v1,v,v4,aA,ay,aB,AV.aj];rw[U q];simp only;refine⟨c.V,[.int .i64 4,.str [],.str [],.int .i64 0,bL _,.aF,.aF,.int .i64 s.a,.int .i64 0],⟨_,_,_,_,_,_,_,_,_,rfl,v1,rfl,rfl⟩,?_⟩;unfold TG TQ;rw[Sm.aU,m,l];generalize cw 11 _=M,bL [y,z]=I,bL s.es=F,cn s.bd=W,cn s.el=L,(c.fail s.a).bX=o2,c.bX=o at *;simp[-aE,-az,cZ,jK,j7,jt,n,dU,q,B,P,v1,v,v4,aA,ay,aB,AV.aj]
theorem anj(c s)(g:c.fe=0)(j:G7 c)(O:Q c.V+Sm.sz s<1000000000)(m:s.k=9)(h:fL c.sg.bY s.k s.es=Y):II pre c s:=by
 refine ua c s g j O h T0 (by rw[m];rfl) λx p=>?_;obtain⟨y,rfl⟩:∃y,x=[y]:=by
  unfold Bq at p;rw[m]at p h;unfold fL at h
  grind
 have w:=λai=>jj (pre:=pre) ai c [];rw[cH g]at *;have F:=λai=>mD (pre:=pre) ai c s.nm [] j.s;have J:=λwl ai bx=>FM (pre:=pre) (wl:=wl) (ai:=ai) (c:=c) (r:=[]) (bx:=bx);have N:=λwl ai bx=>Il (pre:=pre) (wl:=wl) (ai:=ai) (c:=c) (r:=[]) (bx:=bx);have ⟨D,B,L⟩:=gJ (s:=s);have C:(cn s.bd).aj=cn s.bd:=bZ;have I:(cn s.el).aj=cn s.el:=bZ;have S:bn (cw 11 (E.rows [y]))=Y:=ey;have P:(cw 11 _).aj=bL [y]:=rfl;have T:bf (cw 11 (E.rows [y]))=[y.aK]:=rfl;have m4:cU 11 (cw 11 (E.rows [y]))=Y:=by simp[E.rows,cy,E.aU]
 have v1:bn (bL [y])=Y:=cu;have v2:(bL [y]).aj=bL _:=ck;have v3:bf (bL [y])=[y.aK]:=rfl;have v4:cU 11 (bL [y])=Y:=ox;have t:c.cG c.V=c:=rfl;have n:(V ((9:Int)=1\/(9:Int)=2))=X:=by decide
 have z:¬((9:Int)=1\/(9:Int)=2):=by decide
 have q:gD 9 s.on=[]:=rfl;have v:gG 9 s.od=0:=rfl;have l:DJ c.H c.sg.bY c.sg.res c.V s [y] T0=.ok (.mk 9 [] [] 0 [y] [] [] s.a 0,c.V):=by
  unfold DJ qk;simp[m,n7,gD,gG]
 rw[l,m];rw[q,v,n,U z,U z];rw[E.aU]at *;simp only;unfold TG TQ;rw[qG,Sm.aU,m,t,vY];generalize cw 11 _=M,bL [y]=yv,bL s.es=G,cn s.bd=W,cn s.el=R,c.bX=o at *;simp[-aE,-az,jK,j7,jt,w,P,v1,aB,AV.aj]
theorem ank(c s)(l:c.fe=0)(n:G7 c)(C:Q c.V+Sm.sz s<1000000000)(m:s.k=3)(h:fL c.sg.bY s.k s.es=Y):II pre c s:=by
 refine ua c s l n C h T0 (by rw[m];rfl) λys O=>?_;have R:Bq c.H c.V s.k s.es=sK c.H c.V s.es:=ah;rw[R]at O;rw[m]at h;obtain⟨y,rfl⟩:=Dh (by simpa [fL] using h) O;have j:=λai=>jj (pre:=pre) ai c [];rw[cH l]at *;have eT:=λwl ai st=>dK wl ai st;have B:=λai=>mC (pre:=pre) ai c s.a [];have F:=λai=>mD (pre:=pre) ai c s.nm [] n.s;have S:=λwl ai bx=>FM (pre:=pre) (wl:=wl) (ai:=ai) (c:=c) (r:=[]) (bx:=bx);have T:=λwl ai bx=>Il (pre:=pre) (wl:=wl) (ai:=ai) (c:=c) (r:=[]) (bx:=bx);have ⟨e1,b1,l1⟩:=gJ (s:=s);have b2:(cn s.bd).aj=cn s.bd:=bZ;have l2:(cn s.el).aj=cn s.el:=bZ;have m1:bn (cw 11 (E.rows [y]))=Y:=ey;have P:(cw 11 _).aj=bL [y]:=rfl;have m3:bf (cw 11 (E.rows [y]))=[y.aK]:=rfl;have m4:cU 11 (cw 11 (E.rows [y]))=Y:=by simp[E.rows,cy,E.aU]
 have v1:bn (bL [y])=Y:=cu;have v2:(bL [y]).aj=bL _:=ck;have v:bf (bL [y])=[y.aK]:=rfl;have v4:cU 11 (bL [y])=Y:=ox;have g:c.cG c.V=c:=rfl;have G:(V ((3:Int)=1\/(3:Int)=2))=X:=by decide
 have w:¬((3:Int)=1\/(3:Int)=2):=by decide
 have I:gD 3 s.on=[]:=rfl;have J:gG 3 s.od=0:=rfl;have D:DJ c.H c.sg.bY c.sg.res c.V s [y] T0=match vM c.H c.V s.nm with
   |some (u,r)=>if u=y.ty then .ok (.mk 3 s.nm [] 0 [y] [] [] s.a r,c.V) else .error s.a
   |none=>.error s.a:=by
  unfold DJ qk
  grind [Fs,n7]
 rw[D,m];rw[I,J,G,U w,U w];rw[E.aU]at *;cases p:vM c.H c.V s.nm with
 |none=>
  rw[p]at F;simp only;refine⟨c.V,[.int .i64 3,.str [],.str [],.int .i64 0,bL _,.aF,.aF,.int .i64 s.a,.int .i64 0],⟨_,_,_,_,_,_,_,_,_,rfl,v1,rfl,rfl⟩,?_⟩;unfold TG TQ;rw[Sm.aU,m,g];generalize cw 11 _=M,bL [y]=z,bL s.es=t,cn s.bd=W,cn s.el=L,(c.fail s.a).bX=N,c.bX=o at *;simp[-aE,-az,jK,j7,jt,j,F,rF,B,P,v1,aA,ay,aB,AV.aj]
 |some x=>
  have ⟨u,r⟩:=x;rw[p]at F;simp only;by_cases q:u=y.ty;rw[af q];have q:=eq_true q;simp only;unfold TG TQ;rw[qG,Sm.aU,m,g,vY];generalize cw 11 _=M,bL [y]=z,bL s.es=t,cn s.bd=W,cn s.el=L,c.bX=o at *;simp[-aE,-az,cZ,jK,j7,jt,j,F,rF,dU,q,P,v1,v,v4,aA,ay,aB,AV.aj];rw[U q];simp only;refine⟨c.V,[.int .i64 3,.str [],.str [],.int .i64 0,bL _,.aF,.aF,.int .i64 s.a,.int .i64 r],⟨_,_,_,_,_,_,_,_,_,rfl,v1,rfl,rfl⟩,?_⟩;unfold TG TQ;rw[Sm.aU,m,g];generalize cw 11 _=M,bL [y]=z,bL s.es=t,cn s.bd=W,cn s.el=L,(c.fail s.a).bX=N,c.bX=o at *;simp[-aE,-az,cZ,jK,j7,jt,j,F,rF,dU,q,B,P,v1,v,v4,aA,ay,aB,AV.aj]
theorem ah6(c s)(g:c.fe=0)(j:G7 c)(O:Q c.V+Sm.sz s<1000000000)(m:s.k=7)(h:fL c.sg.bY s.k s.es=Y)(w:c.sg.bY=Y):II pre c s:=by
 refine ua c s g j O h T0 (by rw[m];rfl) λys p=>?_;have G:Bq c.H c.V s.k s.es=sK c.H c.V s.es:=ah;rw[G]at p;rw[m]at h;obtain⟨y,rfl⟩:=Dh (by simp_all [fL]) p;have n:=λai=>jj (pre:=pre) ai c [];rw[cH g]at *;have eT:=λwl ai st=>dK wl ai st;have B:=λai=>mC (pre:=pre) ai c s.a [];have eV:=λai=>mD (pre:=pre) ai c s.nm [] j.s;have J:=λwl ai bx=>FM (pre:=pre) (wl:=wl) (ai:=ai) (c:=c) (r:=[]) (bx:=bx);have N:=λwl ai bx=>Il (pre:=pre) (wl:=wl) (ai:=ai) (c:=c) (r:=[]) (bx:=bx);have ⟨T,R,l1⟩:=gJ (s:=s);have S:(cn s.bd).aj=cn s.bd:=bZ;have l2:(cn s.el).aj=cn s.el:=bZ;have m1:bn (cw 11 (E.rows [y]))=Y:=ey;have P:(cw 11 _).aj=bL [y]:=rfl;have m3:bf (cw 11 (E.rows [y]))=[y.aK]:=rfl;have m4:cU 11 (cw 11 (E.rows [y]))=Y:=by simp[E.rows,cy,E.aU]
 have v1:bn (bL [y])=Y:=cu;have v2:(bL [y]).aj=bL _:=ck;have v:bf (bL [y])=[y.aK]:=rfl;have v4:cU 11 (bL [y])=Y:=ox;have l:c.cG c.V=c:=rfl;have x:(V ((7:Int)=1\/(7:Int)=2))=X:=by decide
 have z:¬((7:Int)=1\/(7:Int)=2):=by decide
 have C:gD 7 s.on=[]:=rfl;have D:gG 7 s.od=0:=rfl;have t:DJ c.H c.sg.bY c.sg.res c.V s [y] T0=if y.ty=c.sg.res then .ok (.mk 7 [] [] 0 [y] [] [] s.a 0,c.V) else .error s.a:=by
  grind [DJ,qk,Fs,n7]
 rw[w]at J;rw[t,m];rw[C,D,x,U z,U z];rw[E.aU]at *;by_cases q:y.ty=c.sg.res;rw[af q];have q:=eq_true q;simp only;unfold TG TQ;rw[qG,Sm.aU,m,l,vY];generalize cw 11 _=M,bL [y]=I,bL s.es=F,cn s.bd=W,cn s.el=L,c.bX=o at *;simp[-aE,-az,cZ,jK,j7,jt,n,J,N,dU,q,P,v1,v,v4,aA,ay,aB,AV.aj];rw[U q];simp only;refine⟨c.V,[.int .i64 7,.str [],.str [],.int .i64 0,bL _,.aF,.aF,.int .i64 s.a,.int .i64 0],⟨_,_,_,_,_,_,_,_,_,rfl,v1,rfl,rfl⟩,?_⟩;unfold TG TQ;rw[Sm.aU,m,l];generalize cw 11 _=M,bL [y]=I,bL s.es=F,cn s.bd=W,cn s.el=L,(c.fail s.a).bX=o2,c.bX=o at *;simp[-aE,-az,cZ,jK,j7,jt,n,J,N,dU,q,B,P,v1,v,v4,aA,ay,aB,AV.aj]
theorem ah7(c s)(g:c.fe=0)(j:G7 c)(O:Q c.V+Sm.sz s<1000000000)(m:s.k=7)(h:fL c.sg.bY s.k s.es=Y)(N:c.sg.bY=X):II pre c s:=by
 refine ua c s g j O h T0 (by rw[m];rfl) λy p=>?_;have C:Bq c.H c.V s.k s.es=sK c.H c.V s.es:=ah;rw[C]at p;rw[m]at h;obtain rfl:y=[]:=by
  have L:s.es=[]:=by simp_all [fL]
  have:=oD p
  grind
 have w:=λai=>jj (pre:=pre) ai c [];rw[cH g]at *;have B:=λai=>mC (pre:=pre) ai c s.a [];have I:=λai=>mD (pre:=pre) ai c s.nm [] j.s;have J:=λwl ai bx=>FM (pre:=pre) (wl:=wl) (ai:=ai) (c:=c) (r:=[]) (bx:=bx);have x:=λwl ai bx=>Il (pre:=pre) (wl:=wl) (ai:=ai) (c:=c) (r:=[]) (bx:=bx);have ⟨G,D,S⟩:=gJ (s:=s);have F:(cn s.bd).aj=cn s.bd:=bZ;have T:(cn s.el).aj=cn s.el:=bZ;have m1:bn (cw 11 (E.rows []))=Y:=ey;have P:(cw 11 _).aj=bL []:=rfl;have m3:bf (cw 11 (E.rows []))=[]:=rfl;have m4:cU 11 (cw 11 (E.rows []))=Y:=by rfl
 have v1:bn (bL [])=Y:=cu;have v2:(bL []).aj=bL []:=ck;have v3:bf (bL [])=[]:=rfl;have v4:cU 11 (bL [])=Y:=ox;have t:c.cG c.V=c:=rfl;have n:(V ((7:Int)=1\/(7:Int)=2))=X:=by decide
 have z:¬((7:Int)=1\/(7:Int)=2):=by decide
 have q:gD 7 s.on=[]:=rfl;have v:gG 7 s.od=0:=rfl;have l:DJ c.H c.sg.bY c.sg.res c.V s [] T0=.ok (.mk 7 [] [] 0 [] [] [] s.a 0,c.V):=by
  unfold DJ qk;simp[m,n7,gD,gG]
 rw[N]at J;rw[l,m];rw[q,v,n,U z,U z];simp only;unfold TG TQ;rw[qG,Sm.aU,m,t,vY];generalize cw 11 _=M,bL []=yv,bL s.es=R,cn s.bd=W,cn s.el=lv,c.bX=o at *;simp[-aE,-az,jK,j7,jt,w,J,P,v1,aA,ay,aB,AV.aj]
theorem anl(c s)(H:c.fe=0)(g:G7 c)(O:Q c.V+Sm.sz s<1000000000)(m:s.k=7)(h:fL c.sg.bY s.k s.es=Y):II pre c s:=by
 grind [ah6,ah7]
theorem Zy(ai)(c:CK)(l)(H:c.fe≠0):(bh S).call 0 ai 88 [.ptr (Q pre) 0 0 0,cn l] (pre++[c.bX])=Z (.aF,pre++[c.bX]):=by
 have k:bn (cn l)=Y:=cW;have g:bf (cn l)=Sm.rows l:=br;have m:=λai=>jj (pre:=pre) ai c [];rw[eX H]at *;refine aG rfl rfl rfl ?_;simp[-aE,-az,s88];rw[Aj OA.eq_1];by_cases h:0<Q l;all_goals simp_all
theorem anm(c s)(j:c.fe=0)(n:G7 c)(fM:Q c.V+Sm.sz s<1000000000)(g:s.k=6)(h:fL c.sg.bY s.k s.es=Y)(T:∀d:CK,d.H=c.H->d.sg=c.sg->d.fe=0->G7 d->Q d.V+Sm.eJ s.bd<1000000000->Tm pre d s.bd):II pre c s:=by
 refine ua c s j n fM h T0 (by rw[g];rfl) λys I=>?_;have oW:Bq c.H c.V s.k s.es=sK c.H c.V s.es:=ah;rw[oW]at I;rw[g]at h;obtain⟨y,rfl⟩:=Dh (by simpa [fL] using h) I;have t:=λai=>jj (pre:=pre) ai c [];rw[cH j]at *;have l:=λwl ai st=>dK wl ai st;have S:=λai=>mC (pre:=pre) ai c s.a [];have eV:=λai=>mD (pre:=pre) ai c s.nm [] n.s;have IM:=λwl ai bx=>FM (pre:=pre) (wl:=wl) (ai:=ai) (c:=c) (r:=[]) (bx:=bx);have Pn:=λwl ai bx=>Il (pre:=pre) (wl:=wl) (ai:=ai) (c:=c) (r:=[]) (bx:=bx);have ⟨e1,b1,l1⟩:=gJ (s:=s);have C:(cn s.bd).aj=cn s.bd:=bZ;have l2:(cn s.el).aj=cn s.el:=bZ;have m1:bn (cw 11 (E.rows [y]))=Y:=ey;have P:(cw 11 _).aj=bL [y]:=rfl;have m3:bf (cw 11 (E.rows [y]))=[y.aK]:=rfl;have m4:cU 11 (cw 11 (E.rows [y]))=Y:=by simp[E.rows,cy,E.aU]
 have v1:bn (bL [y])=Y:=cu;have v2:(bL [y]).aj=bL _:=ck;have z:bf (bL [y])=[y.aK]:=rfl;have v4:cU 11 (bL [y])=Y:=ox;have mT:c.cG c.V=c:=rfl;have hp:(V ((6:Int)=1\/(6:Int)=2))=X:=by decide
 have R:¬((6:Int)=1\/(6:Int)=2):=by decide
 have k1:gD 6 s.on=[]:=rfl;have k2:gG 6 s.od=0:=rfl;have hR:DJ c.H c.sg.bY c.sg.res c.V s [y] T0=if y.ty=tB then (match pe c.H c.sg.bY c.sg.res c.V s.bd with
   |.error x=>.error x|.ok (b,w)=>.ok (.mk 6 [] [] 0 [y] b [] s.a 0,w)) else .error s.a:=by
  unfold DJ qk;simp only[g];by_cases q:y.ty=tB;all_goals grind [Fs,n7]
 have hz:=Sm.w9 s;have m:=T c rfl rfl j n (by omega);unfold Tm at m;rw[hR,g];rw[k1,k2,hp,U R,U R];rw[E.aU]at *;by_cases q:y.ty=tB;rw[af q];cases F:pe c.H c.sg.bY c.sg.res c.V s.bd with
 |error a=>
  rw[F]at m;simp only at *;have ⟨W,v,B,m⟩:=m (Q pre+1);have p:bn v.aj=Y:=by simp;omega
  have J:=zi v;refine⟨W,[.int .i64 6,.str [],.str [],.int .i64 0,bL _,v.aj,.aF,.int .i64 s.a,.int .i64 0],⟨_,_,_,_,_,_,_,_,_,rfl,v1,p,rfl⟩,?_⟩;unfold TG TQ;rw[Sm.aU,g];generalize cw 11 _=M,bL [y]=N,bL s.es=G,cn s.bd=D,cn s.el=L,((c.cG W).fail a).bX=O,c.bX=o at *;simp[-aE,-az,cZ,jK,j7,jt,t,l,q,m,B,p,P,v1,z,v4,C,aA,ay,aB,AV.aj]
 |ok x=>
  have ⟨b,w⟩:=x;rw[F]at m;simp only at *;unfold TG TQ;rw[qG,Sm.aU,g,vY];have B:bn (cw 9 (Sm.rows b))=Y:=ey;have p:(cw 9 _).aj=cn b:=rfl;have J:bn (cn b)=Y:=cW;have w4:(cn b).aj=cn b:=bZ;generalize cw 9 _=BM,cn b=BV,cw 11 _=M,bL [y]=N,bL s.es=G,cn s.bd=D,cn s.el=L,(c.cG w).bX=O,c.bX=o at *;simp[-aE,-az,cZ,jK,j7,jt,t,l,q,m,B,p,J,P,v1,z,v4,C,aA,ay,aB,AV.aj]
 rw[U q];simp only;refine⟨c.V,[.int .i64 6,.str [],.str [],.int .i64 0,bL _,.aF,.aF,.int .i64 s.a,.int .i64 0],⟨_,_,_,_,_,_,_,_,_,rfl,v1,rfl,rfl⟩,?_⟩;unfold TG TQ;rw[Sm.aU,g,mT];generalize cw 11 _=M,bL [y]=N,bL s.es=G,cn s.bd=D,cn s.el=L,(c.fail s.a).bX=O,c.bX=o at *;simp[-aE,-az,cZ,jK,j7,jt,t,l,dB,q,S,P,v1,z,v4,aA,ay,aB,AV.aj]
theorem ano(c s)(z:c.fe=0)(n:G7 c)(fM:Q c.V+Sm.sz s<1000000000)(j:s.k=5)(h:fL c.sg.bY s.k s.es=Y)(Tq:∀d:CK,d.H=c.H->d.sg=c.sg->d.fe=0->G7 d->Q d.V+Sm.eJ s.bd<1000000000->Tm pre d s.bd)(O:∀d:CK,d.H=c.H->d.sg=c.sg->d.fe=0->G7 d->Q d.V+Sm.eJ s.el<1000000000->Tm pre d s.el):II pre c s:=by
 refine ua c s z n fM h T0 (by rw[j];rfl) λys og=>?_;have oW:Bq c.H c.V s.k s.es=sK c.H c.V s.es:=ah;rw[oW]at og;rw[j]at h;obtain⟨y,rfl⟩:=Dh (by simpa [fL] using h) og;have B:=λai=>jj (pre:=pre) ai c [];rw[cH z]at *;have t:=λwl ai st=>dK wl ai st;have EC:=λai=>mC (pre:=pre) ai c s.a [];have eV:=λai=>mD (pre:=pre) ai c s.nm [] n.s;have IM:=λwl ai bx=>FM (pre:=pre) (wl:=wl) (ai:=ai) (c:=c) (r:=[]) (bx:=bx);have Pn:=λwl ai bx=>Il (pre:=pre) (wl:=wl) (ai:=ai) (c:=c) (r:=[]) (bx:=bx);have ⟨e1,b1,l1⟩:=gJ (s:=s);have J:(cn s.bd).aj=cn s.bd:=bZ;have T:(cn s.el).aj=cn s.el:=bZ;have m1:bn (cw 11 (E.rows [y]))=Y:=ey;have P:(cw 11 _).aj=bL [y]:=rfl;have m3:bf (cw 11 (E.rows [y]))=[y.aK]:=rfl;have m4:cU 11 (cw 11 (E.rows [y]))=Y:=by simp[E.rows,cy,E.aU]
 have v1:bn (bL [y])=Y:=cu;have v2:(bL [y]).aj=bL _:=ck;have C:bf (bL [y])=[y.aK]:=rfl;have v4:cU 11 (bL [y])=Y:=ox;have mT:c.cG c.V=c:=rfl;have hp:(V ((5:Int)=1\/(5:Int)=2))=X:=by decide
 have zK:¬((5:Int)=1\/(5:Int)=2):=by decide
 have k1:gD 5 s.on=[]:=rfl;have k2:gG 5 s.od=0:=rfl;have hR:DJ c.H c.sg.bY c.sg.res c.V s [y] T0=if y.ty=tB then (match pe c.H c.sg.bY c.sg.res c.V s.bd with
   |.error x=>.error x|.ok (b,w)=>match pe c.H c.sg.bY c.sg.res w s.el with
    |.error x=>.error x|.ok (d,l)=>.ok (.mk 5 [] [] 0 [y] b d s.a 0,l)) else .error s.a:=by
  unfold DJ qk;simp only[j];by_cases q:y.ty=tB;all_goals grind [Fs,n7]
 have hz:=Sm.w9 s;have m:=Tq c rfl rfl z n (by omega);unfold Tm at m;rw[hR,j];rw[k1,k2,hp,U zK,U zK];rw[E.aU]at *;by_cases q:y.ty=tB;rw[af q];cases N:pe c.H c.sg.bY c.sg.res c.V s.bd with
 |error a=>
  rw[N]at m;simp only at *;have ⟨W,v,D,m⟩:=m (Q pre+1);have p:bn v.aj=Y:=by simp;omega
  have F:=zi v;have hF:=λai=>Zy (pre:=pre) ai ((c.cG W).fail a) s.el vR;refine⟨W,[.int .i64 5,.str [],.str [],.int .i64 0,bL _,v.aj,.aF,.int .i64 s.a,.int .i64 0],⟨_,_,_,_,_,_,_,_,_,rfl,v1,p,rfl⟩,?_⟩;unfold TG TQ;rw[Sm.aU,j];generalize cw 11 _=M,bL [y]=yv,bL s.es=S,cn s.bd=L,cn s.el=lv,((c.cG W).fail a).bX=o2,c.bX=o at *;simp[-aE,-az,cZ,jK,j7,jt,B,t,q,m,hF,D,p,P,v1,C,v4,J,T,aA,ay,aB,AV.aj]
 |ok x=>
  have ⟨b,w⟩:=x;rw[N]at m;simp only at *;have ⟨g1,g2⟩:=adj n.V N;have g:=O (c.cG w) rfl rfl z (O4 n g1 (by omega)) (by show Q w+_<_;omega);unfold Tm at g;have R:pe (c.cG w).H (c.cG w).sg.bY (c.cG w).sg.res (c.cG w).V s.el=pe c.H c.sg.bY c.sg.res w s.el:=rfl;rw[R]at g;have D:bn (cw 9 (Sm.rows b))=Y:=ey;have p:(cw 9 _).aj=cn b:=rfl;have F:bn (cn b)=Y:=cW;have w4:(cn b).aj=cn b:=bZ;cases hc:pe c.H c.sg.bY c.sg.res w s.el with
  |error a=>
   rw[hc]at g;simp only at *;have ⟨W,v,u1,g⟩:=g (Q pre+1);have I:bn v.aj=Y:=(by simp;omega);have u3:=zi v;have G:(c.cG w).cG W=c.cG W:=rfl;rw[G]at g;refine⟨W,[.int .i64 5,.str [],.str [],.int .i64 0,bL _,cn b,v.aj,.int .i64 s.a,.int .i64 0],⟨_,_,_,_,_,_,_,_,_,rfl,v1,F,I⟩,?_⟩;unfold TG TQ;rw[Sm.aU,j];generalize cw 9 _=BM,cn b=BV,cw 11 _=M,bL [y]=yv,bL s.es=S,cn s.bd=L,cn s.el=lv,(c.cG w).bX=o2,((c.cG W).fail a).bX=o3,c.bX=o at *;simp[-aE,-az,cZ,jK,j7,jt,B,t,q,m,g,D,p,F,u1,I,P,v1,C,v4,J,T,aA,ay,aB,AV.aj]
  |ok x=>
   have ⟨d,l⟩:=x;rw[hc]at g;simp only at *;have G:(c.cG w).cG l=c.cG l:=rfl;rw[G]at g;have u1:bn (cw 9 (Sm.rows d))=Y:=ey;have I:(cw 9 _).aj=cn d:=rfl;have u3:bn (cn d)=Y:=cW;have u4:(cn d).aj=cn d:=bZ;unfold TG TQ;rw[qG,Sm.aU,j];generalize cw 9 _=BM,cn b=BV at *;generalize cw 9 _=DM,cn d=DV,cw 11 _=M,bL [y]=yv,bL s.es=S,cn s.bd=L,cn s.el=lv,(c.cG w).bX=o2,(c.cG l).bX=o3,c.bX=o at *;simp[-aE,-az,cZ,jK,j7,jt,B,t,q,m,g,D,p,F,u1,I,u3,P,v1,C,v4,J,T,aA,ay,aB,AV.aj]
 rw[U q];simp only;refine⟨c.V,[.int .i64 5,.str [],.str [],.int .i64 0,bL _,.aF,.aF,.int .i64 s.a,.int .i64 0],⟨_,_,_,_,_,_,_,_,_,rfl,v1,rfl,rfl⟩,?_⟩;unfold TG TQ;rw[Sm.aU,j,mT];generalize cw 11 _=M,bL [y]=yv,bL s.es=S,cn s.bd=L,cn s.el=lv,(c.fail s.a).bX=o2,c.bX=o at *;simp[-aE,-az,cZ,jK,j7,jt,B,t,dB,q,EC,P,v1,C,v4,aA,ay,aB,AV.aj]
end R9
namespace R9
open Ax Go aM V7 jb jn K9
variable {pre:aO}
theorem xy(c:CK)(s:Sm)(ai g)(w:c.V.length<1000000000){rs Q kk}(bs m)(v:m=s.aK)(E:W S 0 ai rs Q kk .normal ⟨[(0,.val (.ptr pre.length 0 0 0)),(3,.fp 0 0),(4,.fp 1 0),(5,.fp 2 0),(6,.fp 3 0),(7,.val (.bool Y)),(11,.val (.bool (g&&(jA s.nm 0 c.V).isNone)))],m::bs,pre++[c.bX]⟩):
  W S 0 ai rs Q (.code (.loop Ot)::.lz 3::kk) .normal ⟨[(0,.val (.ptr pre.length 0 0 0)),(3,.fp 0 0),(4,.fp 1 0),(5,.fp 2 0),(6,.fp 3 0),(7,.val (.bool Y)),(11,.val (.bool g)),(15,.val (.int .i64 0))],m::bs,pre++[c.bX]⟩:=by
 subst v;rw[Sm.aU]at *;have n:cU 4 (cM c.V)=Y:=wB;have t:bn (cM c.V)=Y:=iQ;have h:bf (cM c.V)=c.V.map Vd.aK:=tF;have p:=λwl ai bx=>adU (pre:=pre) (wl:=wl) (ai:=ai) (c:=c) (r:=[]) (bx:=bx);generalize cM c.V=J,c.bX=o at *;refine bM Ot.eq_1 (λx:Nat×Bool=>⟨[(0,.val (.ptr pre.length 0 0 0)),(3,.fp 0 0),(4,.fp 1 0),(5,.fp 2 0),(6,.fp 3 0),(7,.val (.bool Y)),(11,.val (.bool x.2)),(15,.val (.int .i64 x.1))],[.int .i64 s.k,.str s.nm,.str s.on,.int .i64 s.od,bL s.es,cn s.bd,cn s.el,.int .i64 s.a,.int .i64 s.ref]::bs,pre++[o]⟩)
  (λx=>x.1<=c.V.length/\(g&&(jA s.nm 0 c.V).isNone)=(x.2&&(jA s.nm x.1 (c.V.drop x.1)).isNone)) (λx=>c.V.length-x.1) (0,g) rfl ⟨by simp,by simp⟩ ?_
 rintro⟨k,b⟩ ⟨q,j⟩ l;simp only at q j l;by_cases R:k<c.V.length;have H:=wk k (by omega);rw[Db R]at j;cases b with
 |false=>
  have I:=l (k+1,X) ⟨by simp only;omega,by rw[j];rfl⟩ (by simp only;omega);simp[-aE,-az,p,t,h,R,H,aA,ay];exact I
 |true=>
  by_cases e:c.V[k].nm=s.nm;rw[af e]at j;have I:=l (k+1,X) ⟨by simp only;omega,by rw[j];rfl⟩ (by simp only;omega);simp[-aE,-az,cZ,p,t,n,h,R,H,e,Vd.aK,aA,ay];exact I;rw[U e]at j;have I:=l (k+1,Y) ⟨by simp only;omega,j⟩ (by simp only;omega);simp[-aE,-az,cZ,p,t,n,h,R,H,e,Vd.aK,aA,ay];exact I
 have D:k=c.V.length:=by omega
 have:b=(g&&(jA s.nm 0 c.V).isNone):=by rw[j,D,aaF];simp[jA]
 rw[<-this]at E;simp[-aE,-az,p,t,h,R];exact E
theorem asK(c:CK)(s t)(g:Q c.V<1000000000):wS 4 40 (cw 4 (c.V.map Vd.aK)) [[.str s,.int .i64 t.b,.int .i64 t.r,.int .i64 t.d]]=Z (cw 4 ((c.V++[(⟨s,t⟩:Vd)]).map Vd.aK)):=by
 have T:=iw (sz:=4) (bytes:=40) (r:=c.V.map Vd.aK) (new:=[[.str s,.int .i64 t.b,.int .i64 t.r,.int .i64 t.d]]) (by simp[cy]) (by simp[dj];omega);have p:c.V.map Vd.aK++[[.str s,.int .i64 t.b,.int .i64 t.r,.int .i64 t.d]]=(c.V++[(⟨s,t⟩:Vd)]).map Vd.aK:=by simp[Vd.aK]
 rw[p]at T;exact T
theorem anq(c s)(z:c.fe=0)(n:G7 c)(J:c.V.length+Sm.sz s<1000000000)(m:s.k=1)(h:fL c.sg.bY s.k s.es=Y):II pre c s:=by
 cases l:sR c.H s.k s.on s.od with
 |none=>
  have hz:=Sm.w9 s;have M:=E.mq s.es;unfold II;rw[KW,af h,l];simp only;exact λai=>⟨c.V,_,⟨_,_,_,_,_,_,_,_,_,rfl,rfl,rfl,rfl⟩,Nk c s ai n.s (by omega) h l⟩
 |some t=>
  refine ua c s z n J h t l λys O=>?_;have oW:Bq c.H c.V s.k s.es=sK c.H c.V s.es:=ah;rw[oW]at O;rw[m]at h;obtain rfl:ys=[]:=by
   have h0:s.es.length=0:=(by simpa [fL] using h);have:=oD O;exact List.eq_nil_of_length_eq_zero (by omega)
  have g:=n.s.V;have q:=λai=>jj (pre:=pre) ai c [];rw[cH z]at q;have F:=λai=>mC (pre:=pre) ai c s.a [];have p:=λwl ai bx=>adU (pre:=pre) (wl:=wl) (ai:=ai) (c:=c) (r:=[]) (bx:=bx);have I:=λai bx=>ad1 (pre:=pre) (ai:=ai) (c:=c) (bx:=bx);have v:=λai bx=>akg (pre:=pre) (ai:=ai) (c:=c) (w:=(cw 4 (c.V.map Vd.aK)).gK) (W:=c.V++[(⟨s.nm,t⟩:Vd)]) (bx:=bx);have tV:=asK c s.nm t g;obtain⟨e1,b1,l1⟩:=gJ (s:=s);have m0:cw 11 (E.rows [])=.aF:=rfl;have U:bn (cM c.V)=Y:=iQ;have j:(bf (cM c.V)).length=c.V.length:=by simp
  have mT:c.cG c.V=c:=rfl;have N:(decide ((1:Int)=1\/(1:Int)=2))=Y:=by decide
  have C:((1:Int)=1\/(1:Int)=2):=by decide
  have P:gD 1 s.on=s.on:=rfl;have R:gG 1 s.od=s.od:=rfl;have Zb:IntKind.i64.wrap (c.V.length:Int)=c.V.length:=by rw[dg]<;>omega
  have L:DJ c.H c.sg.bY c.sg.res c.V s [] t=match jA s.nm 0 c.V with
    |some _=>.error s.a|none=>.ok (.mk 1 s.nm s.on s.od [] [] [] s.a c.V.length,c.V++[⟨s.nm,t⟩]):=by
   unfold DJ qk;simp only[m];cases jA s.nm 0 c.V<;>simp[n7,gD,gG]
  rw[L,m];rw[P,R,N,af C,af C,m0];cases B:jA s.nm 0 c.V with
  |some x=>
   simp only;refine⟨c.V,[.int .i64 1,.str [],.str s.on,.int .i64 s.od,.aF,.aF,.aF,.int .i64 s.a,.int .i64 c.V.length],⟨_,_,_,_,_,_,_,_,_,rfl,rfl,rfl,rfl⟩,?_⟩;unfold TG TQ;have y:=fun {Q:Ex->St->Prop} {rs:List qg} {kk:List B1} bs ai=>xy (pre:=pre) c s ai Y g (rs:=rs) (Q:=Q) (kk:=kk) bs _ rfl;rw[B]at y;rw[Sm.aU s,m,mT]at *;generalize bL s.es=S,cn s.bd=G,cn s.el=T,(c.fail s.a).bX=o2,c.bX=o at *;simp[-aE,-az,jK,j7,jt,q,AV.aj];refine y _ _ ?_;simp[-aE,-az,p,U,F,aB,AV.aj]
  |none=>
   simp only;unfold TG TQ;have y:=fun {Q:Ex->St->Prop} {rs:List qg} {kk:List B1} bs ai=>xy (pre:=pre) c s ai Y g (rs:=rs) (Q:=Q) (kk:=kk) bs _ rfl;rw[B]at y;have D:({ c with V:=c.V++[(⟨s.nm,t⟩:Vd)] }:CK)=c.cG (c.V++[⟨s.nm,t⟩]):=rfl;rw[D]at v;rw[qG,vY];rw[Sm.aU s,m]at *;have q1:bL []=.aF:=rfl;rw[q1];generalize cM c.V=FV,(c.cG (c.V++[⟨s.nm,t⟩])).bX=o2,cw 4 ((c.V++[(⟨s.nm,t⟩:Vd)]).map Vd.aK)=M2,c.Ze (cw 4 (c.V.map Vd.aK)).gK=o3 at *;generalize cw 4 (c.V.map Vd.aK)=M1,bL s.es=S,cn s.bd=G,cn s.el=T,c.bX=o at *;simp[-aE,-az,jK,j7,jt,q,AV.aj];refine y _ _ ?_;simp[-aE,-az,p,I,v,tV,U,j,aA,ay,aB,AV.aj]
theorem anr(c s)(I:c.fe=0)(C:G7 c)(fM:c.V.length+Sm.sz s<1000000000)(m:s.k=2)(h:fL c.sg.bY s.k s.es=Y):II pre c s:=by
 cases B:sR c.H s.k s.on s.od with
 |none=>
  have hz:=Sm.w9 s;have hel:=E.mq s.es;unfold II;rw[KW,af h,B];simp only;exact λai=>⟨c.V,_,⟨_,_,_,_,_,_,_,_,_,rfl,rfl,rfl,rfl⟩,Nk c s ai C.s (by omega) h B⟩
 |some t=>
  refine ua c s I C fM h t B λys S=>?_;have oW:Bq c.H c.V s.k s.es=sK c.H c.V s.es:=ah;rw[oW]at S;rw[m]at h;obtain⟨y,rfl⟩:=Dh (by simpa [fL] using h) S;have m1:bn (cw 11 (E.rows [y]))=Y:=ey;have P:(cw 11 (E.rows [y])).aj=bL [y]:=rfl;have m3:bf (cw 11 (E.rows [y]))=[y.aK]:=rfl;have m4:cU 11 (cw 11 (E.rows [y]))=Y:=by simp[E.rows,cy,E.aU]
  have v1:bn (bL [y])=Y:=cu;have v2:(bL [y]).aj=bL [y]:=ck;have v:bf (bL [y])=[y.aK]:=rfl;have v4:cU 11 (bL [y])=Y:=ox;rw[E.aU y]at m3 v;have g:=C.s.V;have l:=λai=>jj (pre:=pre) ai c [];rw[cH I]at l;have D:=λai=>mC (pre:=pre) ai c s.a [];have p:=λwl ai bx=>adU (pre:=pre) (wl:=wl) (ai:=ai) (c:=c) (r:=[]) (bx:=bx);have et:=λai bx=>ad1 (pre:=pre) (ai:=ai) (c:=c) (bx:=bx);have G:=λai bx=>akg (pre:=pre) (ai:=ai) (c:=c) (w:=(cw 4 (c.V.map Vd.aK)).gK) (W:=c.V++[(⟨s.nm,t⟩:Vd)]) (bx:=bx);have tV:=asK c s.nm t g;obtain⟨e1,b1,l1⟩:=gJ (s:=s);have n:bn (cM c.V)=Y:=iQ;have z:(bf (cM c.V)).length=c.V.length:=by simp
  have O:c.cG c.V=c:=rfl;have hp:(decide ((2:Int)=1\/(2:Int)=2))=Y:=by decide
  have zK:((2:Int)=1\/(2:Int)=2):=by decide
  have k1:gD 2 s.on=s.on:=rfl;have k2:gG 2 s.od=s.od:=rfl;have Zb:IntKind.i64.wrap (c.V.length:Int)=c.V.length:=by rw[dg]<;>omega
  have hR:DJ c.H c.sg.bY c.sg.res c.V s [y] t=if y.ty=t then (match jA s.nm 0 c.V with
    |some _=>.error s.a|none=>.ok (.mk 2 s.nm s.on s.od [y] [] [] s.a c.V.length,c.V++[⟨s.nm,t⟩])) else .error s.a:=by
   unfold DJ qk;simp only[m];by_cases q:y.ty=t;cases jA s.nm 0 c.V<;>simp[Fs,q,n7,gD,gG];simp[Fs,q]
  rw[hR,m];rw[k1,k2,hp,af zK,af zK];by_cases q:y.ty=t;rw[af q];have q:(y.ty=t)=True:=eq_true q;cases J:jA s.nm 0 c.V with
  |some x=>
   simp only;refine⟨c.V,[.int .i64 2,.str [],.str s.on,.int .i64 s.od,bL [y],.aF,.aF,.int .i64 s.a,.int .i64 c.V.length],⟨_,_,_,_,_,_,_,_,_,rfl,v1,rfl,rfl⟩,?_⟩;unfold TG TQ;have j:=fun {Q:Ex->St->Prop} {rs:List qg} {kk:List B1} bs ai=>xy (pre:=pre) c s ai Y g (rs:=rs) (Q:=Q) (kk:=kk) bs _ rfl;rw[J]at j;rw[Sm.aU s,m,O]at *;generalize cw 11 (E.rows [y])=M,bL [y]=T,bL s.es=L,cn s.bd=F,cn s.el=N,(c.fail s.a).bX=R,c.bX=o at *;simp[-aE,-az,cZ,jK,j7,jt,l,P,v,v4,dU,q,aA,ay,AV.aj];refine j _ _ ?_;simp[-aE,-az,p,n,D,P,v1,aB,AV.aj]
  |none=>
   simp only;unfold TG TQ;have j:=fun {Q:Ex->St->Prop} {rs:List qg} {kk:List B1} bs ai=>xy (pre:=pre) c s ai Y g (rs:=rs) (Q:=Q) (kk:=kk) bs _ rfl;rw[J]at j;have DB:({ c with V:=c.V++[(⟨s.nm,t⟩:Vd)] }:CK)=c.cG (c.V++[⟨s.nm,t⟩]):=rfl;rw[DB]at G;rw[qG,vY];rw[Sm.aU s,m]at *;generalize cM c.V=FV,(c.cG (c.V++[⟨s.nm,t⟩])).bX=R,cw 4 ((c.V++[(⟨s.nm,t⟩:Vd)]).map Vd.aK)=M2,c.Ze (cw 4 (c.V.map Vd.aK)).gK=o3 at *;generalize cw 4 (c.V.map Vd.aK)=M1,cw 11 (E.rows [y])=M,bL [y]=T,bL s.es=L,cn s.bd=F,cn s.el=N,c.bX=o at *;simp[-aE,-az,cZ,jK,j7,jt,l,P,v,v4,dU,q,aA,ay,AV.aj];refine j _ _ ?_;simp[-aE,-az,p,et,G,tV,n,z,P,v1,aA,ay,aB,AV.aj]
  rw[U q];simp only;refine⟨c.V,[.int .i64 2,.str [],.str s.on,.int .i64 s.od,bL [y],.aF,.aF,.int .i64 s.a,.int .i64 c.V.length],⟨_,_,_,_,_,_,_,_,_,rfl,v1,rfl,rfl⟩,?_⟩;unfold TG TQ;have j:=fun {Q:Ex->St->Prop} {rs:List qg} {kk:List B1} bs ai=>xy (pre:=pre) c s ai X g (rs:=rs) (Q:=Q) (kk:=kk) bs _ rfl;rw[Bool.false_and]at j;rw[Sm.aU s,m,O]at *;generalize cw 11 (E.rows [y])=M,bL [y]=T,bL s.es=L,cn s.bd=F,cn s.el=N,(c.fail s.a).bX=R,c.bX=o at *;simp[-aE,-az,cZ,jK,j7,jt,l,P,v,v4,dU,q,aA,ay,AV.aj];refine j _ _ ?_;simp[-aE,-az,p,n,D,P,v1,aB,AV.aj]
end R9
namespace R9
open Ax Go aM V7 jb jn K9
variable {pre:aO}
theorem qz(c l)(hf:c.fe=0)(hw:G7 c)(fM:Q c.V+Sm.eJ l<1000000000)(hl:∀s∈l,∀d:CK,d.H=c.H->d.sg=c.sg->d.fe=0->G7 d->Q d.V+Sm.sz s<1000000000->II pre d s):Tm pre c l:=by
 unfold Tm;have hz:cU 9 (cn l)=Y:=O2;have U:bn (cn l)=Y:=cW;have kY:(cn l).aj=cn l:=bZ;have T:bf (cn l)=Sm.rows l:=br;have hlen:=Sm.mq l;have tV:∀(n:List Sm) (y:Sm),Q n<1000000000->wS 9 136 (cw 9 (Sm.rows n)) [y.aK]=Z (cw 9 (Sm.rows (n++[y]))):=λn y h=>by
  rw[iw (by simp[cy,Sm.aU]) (by simp[dj];omega)];simp[kB]
 have Me:∀(n:List (List AV)) (y:List AV),Q y=9->Q n<1000000000->wS 9 136 (cw 9 n) [y]=Z (cw 9 (n++[y])):=λn y L h=>by
  rw[iw (by simp[cy,L]) (by simp[dj];omega)]
 cases hR:pe c.H c.sg.bY c.sg.res c.V l with
 |ok x=>
  obtain⟨zs,j⟩:=x;intro o;refine aG (sf:=s88) rfl rfl rfl ?_;generalize cn l=lv at *;simp[-aE,-az,s88];refine bM OA.eq_1 (λx:Nat×List Sm×List Vd×List AV=>⟨[(0,.val (.ptr (Q pre) 0 0 0)),(1,.val lv),(5,.val (cw 9 (Sm.rows x.2.1))),(6,.val (.int .i64 x.1))],[],pre++[(c.cG x.2.2.1).bX]⟩)
   (λx=>x.1<=Q l/\Q x.2.1=x.1/\Zg x.2.1 (pe c.H c.sg.bY c.sg.res x.2.2.1 (l.drop x.1))=.ok (zs,j)/\G7 (c.cG x.2.2.1)/\Q x.2.2.1+Sm.eJ (l.drop x.1)<1000000000) (λx=>Q l-x.1) (0,[],c.V,[]) rfl ⟨by simp,rfl,by simp[Zg,hR],hw,by simpa using fM⟩ ?_
  rintro⟨k,n,g,b⟩ ⟨hk,O,m,M,pA⟩ P;simp only at hk O m M pA P;by_cases B:k<Q l;have DE:=wk k (by omega);rw[Sa l k B]at pA;have p:=hl l[k] (aah B) (c.cG g) rfl rfl hf M (by show Q g+_<_;omega);unfold II at p;have t:Br (c.cG g).H (c.cG g).sg.bY (c.cG g).sg.res (c.cG g).V l[k]=Br c.H c.sg.bY c.sg.res g l[k]:=rfl;rw[t]at p;rw[Zh B]at m;have gE:=O5 B;have D:=λr=>Dc B r;have qm:=λo=>jj (pre:=pre) o (c.cG g) [];rw[cH (show (c.cG g).fe=0 from hf)]at qm;cases z:Br c.H c.sg.bY c.sg.res g l[k] with
  |error a=>rw[z]at m;cases m|ok x=>
   obtain⟨y,W⟩:=x;rw[z]at m p;simp only at m p;obtain⟨w1,w2⟩:=UA l[k] g y W M.V z;have ap:=tV n y (by omega);have I:=λb=>P (k+1,n++[y],W,b) ⟨by simp only;omega,by simp[O],m,O4 (W:=W) hw w1 (by omega),by show Q W+Sm.eJ (l.drop (k+1))<1000000000;omega⟩ (by simp only;omega);simp only at I;have Bt:(c.cG g).cG W=c.cG W:=rfl;rw[Bt]at p;generalize (c.cG g).bX=o1,(c.cG W).bX=o2,cw 9 (Sm.rows (n++[y]))=R at *;rw[Sm.aU l[k]]at p gE;simp only[Sm.aU l[k]]at D;rw[Sm.aU y]at p ap;generalize l[k]=x at *;simp[-aE,-az,cZ,B,DE,U,kY,hz,T,D,qm,p,ap,AV.aj];exact I []
  have dQ:k=Q l:=by omega
  have hh:n=zs/\g=j:=by
   rw[dQ,aaF]at m;simpa [pe,Zg] using m
  obtain⟨L,r⟩:=hh;subst L r;simp[-aE,-az,U,kY,T,B]
 |error a=>
  intro o;obtain⟨v,J,L,W,r,h3⟩:∃v J,(bh S).call 0 o 88 [.ptr (Q pre) 0 0 0,cn l] (pre++[c.bX])=Z (v,J)/\∃W,bn v=Y/\J=pre++[((c.cG W).fail a).bX]:=by
   refine ki (sf:=s88) rfl rfl rfl ?_;generalize cn l=lv at *;simp[-aE,-az,s88];refine bM OA.eq_1 (λx:Nat×List (List AV)×List Vd×CK×List AV=>⟨[(0,.val (.ptr (Q pre) 0 0 0)),(1,.val lv),(5,.val (cw 9 x.2.1)),(6,.val (.int .i64 x.1))],[],pre++[x.2.2.2.1.bX]⟩)
    (λx=>x.1<=Q l/\Q x.2.1=x.1/\(x.2.2.2.1=c.cG x.2.2.1/\pe c.H c.sg.bY c.sg.res x.2.2.1 (l.drop x.1)=.error a/\G7 (c.cG x.2.2.1)/\Q x.2.2.1+Sm.eJ (l.drop x.1)<1000000000\/x.2.2.2.1=(c.cG x.2.2.1).fail a))
    (λx=>Q l-x.1) (0,[],c.V,c,[]) rfl ⟨by simp,rfl,.inl ⟨rfl,by simpa using hR,hw,by simpa using fM⟩⟩ ?_
   rintro⟨k,n,g,d,b⟩ ⟨hk,O,m⟩ P;simp only at hk O m P;by_cases B:k<Q l;have DE:=wk k (by omega);have gE:=O5 B;have D:=λr=>Dc B r;rcases m with⟨N,m,M,pA⟩|N;subst N;rw[Sa l k B]at pA;have p:=hl l[k] (aah B) (c.cG g) rfl rfl hf M (by show Q g+_<_;omega);unfold II at p;have t:Br (c.cG g).H (c.cG g).sg.bY (c.cG g).sg.res (c.cG g).V l[k]=Br c.H c.sg.bY c.sg.res g l[k]:=rfl;rw[t]at p;rw[R8 B]at m;have qm:=λo=>jj (pre:=pre) o (c.cG g) [];rw[cH (show (c.cG g).fe=0 from hf)]at qm;cases z:Br c.H c.sg.bY c.sg.res g l[k] with
   |error a'=>
    rw[z]at m p;simp only at m p;cases m;obtain⟨W,aK,⟨rk,E,G,F,res,C,rel,ra,q,rfl,q1,q2,q3⟩,p⟩:=p (Q pre+1);have Bt:(c.cG g).cG W=c.cG W:=rfl;rw[Bt]at p;have ap:=Me n [.int .i64 rk,.str E,.str G,.int .i64 F,res.aj,C.aj,rel.aj,.int .i64 ra,.int .i64 q] rfl (by omega);have I:=λb=>P (k+1,n++[[.int .i64 rk,.str E,.str G,.int .i64 F,res.aj,C.aj,rel.aj,.int .i64 ra,.int .i64 q]],W,(c.cG W).fail a,b) ⟨by simp only;omega,by simp[O],.inr rfl⟩ (by simp only;omega);simp only at I;generalize (c.cG g).bX=o1,((c.cG W).fail a).bX=o2,cw 9 (n++[[.int .i64 rk,.str E,.str G,.int .i64 F,res.aj,C.aj,rel.aj,.int .i64 ra,.int .i64 q]])=R at *;rw[Sm.aU l[k]]at p gE;simp only[Sm.aU l[k]]at D;generalize l[k]=x at *;simp[-aE,-az,cZ,B,DE,U,kY,hz,T,D,qm,p,ap,q1,q2,q3,AV.aj];exact I []
   |ok x=>
    obtain⟨y,W⟩:=x;rw[z]at m p;simp only at m p;obtain⟨w1,w2⟩:=UA l[k] g y W M.V z;have Yu:pe c.H c.sg.bY c.sg.res W (l.drop (k+1))=.error a:=by
     split at m;rename_i h;cases m;exact h;cases m
    have ap:=Me n y.aK (by rw[Sm.aU];rfl) (by omega);have I:=λb=>P (k+1,n++[y.aK],W,c.cG W,b) ⟨by simp only;omega,by simp[O],.inl ⟨rfl,Yu,O4 (W:=W) hw w1 (by omega),by show Q W+Sm.eJ (l.drop (k+1))<1000000000;omega⟩⟩ (by simp only;omega);simp only at I;have Bt:(c.cG g).cG W=c.cG W:=rfl;rw[Bt]at p;generalize (c.cG g).bX=o1,(c.cG W).bX=o2,cw 9 (n++[y.aK])=R at *;rw[Sm.aU l[k]]at p gE;simp only[Sm.aU l[k]]at D;rw[Sm.aU y]at p ap;generalize l[k]=x at *;simp[-aE,-az,cZ,B,DE,U,kY,hz,T,D,qm,p,ap,AV.aj];exact I []
   subst N;have yR:=λo=>jj (pre:=pre) o ((c.cG g).fail a) [];rw[eX vR]at yR;simp only[Sm.aU l[k]]at D;rw[Sm.aU l[k]]at gE;have w:∃W,((c.cG g).fail a).bX=((c.cG W).fail a).bX:=⟨g,rfl⟩;generalize ((c.cG g).fail a).bX=o2,l[k]=x at *;simp[-aE,-az,B,U,kY,T,yR,w,AV.aj];have dQ:k=Q l:=(by omega);rcases m with⟨N,m,_⟩|N;rw[dQ,aaF]at m;simp[pe]at m;subst N;have w:∃W,((c.cG g).fail a).bX=((c.cG W).fail a).bX:=⟨g,rfl⟩;generalize ((c.cG g).fail a).bX=o2 at *;simp[-aE,-az,U,kY,T,B,w]
  rw[h3]at L;exact⟨W,v,r,L⟩
theorem yg(s):∀c:CK,c.fe=0->G7 c->Q c.V+Sm.sz s<1000000000->II pre c s:=by
 induction s using Sm.C6 with
 |_ s r U=>
  intro c g j O;have t:=Sm.w9 s;have M:=E.mq s.es;cases h:fL c.sg.bY s.k s.es with
  |false=>
   unfold II;rw[KW,h];exact λq=>⟨c.V,_,⟨_,_,_,_,_,_,_,_,_,rfl,rfl,rfl,rfl⟩,Zv c s q (by omega) h⟩
  |true=>
   have T:∀d:CK,d.H=c.H->d.sg=c.sg->d.fe=0->G7 d->Q d.V+Sm.eJ s.bd<1000000000->Tm pre d s.bd:=λd _ _ l m n=>
    qz d s.bd l m n λx p e _ _ y z C=>r x p e y z C
   have o:∀d:CK,d.H=c.H->d.sg=c.sg->d.fe=0->G7 d->Q d.V+Sm.eJ s.el<1000000000->Tm pre d s.el:=λd _ _ l m n=>
    qz d s.el l m n λx p e _ _ y z C=>U x p e y z C
   rcases ahQ h with k|k|k|k|k|k|k|k|k;exact anq c s g j O k h;exact anr c s g j O k h;exact ank c s g j O k h;exact ani c s g j O k h;exact ano c s g j O k h T o;exact anm c s g j O k h T;exact anl c s g j O k h;exact anh c s g j O k h;exact anj c s g j O k h
theorem OZ(c l)(j:c.fe=0)(k:G7 c)(O:Q c.V+Sm.eJ l<1000000000):Tm pre c l:=
 qz c l j k O λs _ d _ _ h H g=>yg s d h H g
end R9
namespace R9
open Ax Go aM V7 jb jn K9
variable {pre:aO}
theorem ant{wl ai}{c:CK}{bx}:bD wl ai (.load Y 2 X) [.val (.ptr (Q pre) 0 0 12)] (pre++[c.bX]) bx=Z (.val (.agg [.int .i64 c.fe,.int .i64 c.fa]),pre++[c.bX],bx):=by
 simp[CK.bX,cut,AV.aj]
theorem anu{ai}{c:CK}{W bx}:bD 0 ai (.store 1) [.val (.ptr (Q pre) 0 0 11),.val (cw 4 (W.map Vd.aK))] (pre++[c.bX]) bx=Z (.none,pre++[(c.cG W).bX],bx):=by
 simp[CK.bX,CK.cG,bw,AV.aD,aB]
def Hi(p:Pg)(g:Sg):CK:=⟨aY p,dJ p,g,[],0,0⟩
theorem asL{wl ai p g st bx}:bD wl ai (.box 14) [.val (.agg [aN 2 ((aY p).bN.map gh),cM (aY p).ax,aN 6 ((aY p).aZ.map Sg.aK),.int .i64 (dJ p),cw 1 (mQ (aY p).rs),.str g.nm,cM g.ps,.bool g.bY,.int .i64 g.res.b,.int .i64 g.res.r,.int .i64 g.res.d,.aF,.int .i64 0,.int .i64 0])] st bx =
  Z (.val (.ptr (Q st) 0 0 0),st++[(Hi p g).bX],bx):=by
 have h:(Hi p g).bX=.rows 0 14 [[aN 2 ((aY p).bN.map gh),cM (aY p).ax,aN 6 ((aY p).aZ.map Sg.aK),.int .i64 (dJ p),cw 1 (mQ (aY p).rs),.str g.nm,cM g.ps,.bool g.bY,.int .i64 g.res.b,.int .i64 g.res.r,.int .i64 g.res.d,.aF,.int .i64 0,.int .i64 0]]:=by
  simp[CK.bX,Hi,xX]
 rw[h];simp
open N7 U7 in
theorem Li(wl ai:Nat)(p:Pg)(st:aO)(hg:(mw p).ok)(w:GD.sm (mw p))(fM:∀f∈p.funcs,Q f.params+Sm.eJ f.body<1000000000):
  (bh S).call wl ai 34 [.agg p.aK] st=Z (u5 p,st):=by
 have em:∀wl ai st,(bh S).call wl ai 86 [.agg p.aK] st=Z (Md (mw p),st):=λwl ai st=>adT wl ai (mw p) st hg w;have hrn:Q p.aR<1000000000:=by have:=w.aR;rw[yl,adW]at this;exact this
 have hfn:Q p.funcs<1000000000:=by have:=w.funcs;rw[tY,adW]at this;exact this
 have E:∀wl ai st,(bh S).call wl ai 87 [.agg p.aK] st=Z (cw 1 (K9.mQ (aY p).rs),st):=λwl ai st=>by
  have:=Sr wl ai (mw p) st hg w.aR;rw[FB]at this;exact this
 refine bu (sf:=s34) rfl rfl (by simp[Pg.aK,AV.aD,AV.aH]) rfl (Sb p) ?_;unfold u5;unfold Md at em;cases U:kR (mw p) with
 |some a=>
  rw[U]at em;simp only[Bf,fE,fX,Pg.aK]at em ⊢;simp[-aE,-az,s34,em,aB,AV.aj,aA,ay]
 |none=>
  rw[U,ady]at em;simp only[fE,fX,Pg.aK,qQ]at em E ⊢;have t1:bn (aN 2 ((aY p).bN.map gh))=Y:=bU;have t2:(aN 2 ((aY p).bN.map gh)).aj=aN 2 ((aY p).bN.map gh):=cg;have t3:bn (aN 6 ((aY p).aZ.map Sg.aK))=Y:=bU;have t4:(aN 6 ((aY p).aZ.map Sg.aK)).aj=aN 6 ((aY p).aZ.map Sg.aK):=cg;have t5:cU 6 (aN 6 ((aY p).aZ.map Sg.aK))=Y:=jz (by simp[cy,Sg.aK]);have t6:bf (aN 6 ((aY p).aZ.map Sg.aK))=(aY p).aZ.map Sg.aK:=br;have r1:bn (aN 3 (p.aR.map Rc.aK))=Y:=bU;have r2:(aN 3 (p.aR.map Rc.aK)).aj=aN 3 (p.aR.map Rc.aK):=cg;have R:bn (aN 7 (p.funcs.map Fc.aK))=Y:=bU;have T:(aN 7 (p.funcs.map Fc.aK)).aj=aN 7 (p.funcs.map Fc.aK):=cg;have f3:cU 7 (aN 7 (p.funcs.map Fc.aK))=Y:=jz (by simp[cy,Fc.aK]);have f4:bf (aN 7 (p.funcs.map Fc.aK))=p.funcs.map Fc.aK:=br;have g1:bn (aN 4 (p.ax.map PD.cells))=Y:=bU;have g2:(aN 4 (p.ax.map PD.cells)).aj=aN 4 (p.ax.map PD.cells):=cg;have F:bn (cM (aY p).ax)=Y:=iQ;have G:(cM (aY p).ax).aj=cM (aY p).ax:=l8;have N:bn (cw 1 (K9.mQ (aY p).rs))=Y:=ey;have l:=λwl ai g st bx=>asL (wl:=wl) (ai:=ai) (p:=p) (g:=g) (st:=st) (bx:=bx);have kO:Q (aY p).aZ=Q p.funcs:=by simp[aY]
  have y:∀g:Sg,g∈(aY p).aZ->G7 ((Hi p g).cG g.ps):=λg Zz=>by
   have Kf:=W7 p;have hnl:Q (iz p)=Q p.aR:=(by simp[iz]);have Gq:Q (aY p).ax<1000000000:=(by have:=w.ax;rw[O1]at this;simpa [aY,qb] using this);have U:∀s∈(aY p).bN,Q s.2<1000000000:=λs hs=>by
    obtain⟨r,hr,rfl⟩:=List.mem_map.1 hs;have:=w.cr (RX r) (by rw[yl];exact aki hr);simpa [RX,tX,qb] using this
   have hP:∀s∈(aY p).aZ,Q s.ps<1000000000:=λs hs=>by
    obtain⟨r,hr,rfl⟩:=List.mem_map.1 hs;have:=w.params (IJ r) (by rw[tY];exact aki hr);simpa [IJ,tX,Ca,qb] using this
   refine⟨⟨hP g Zz,Gq,?_,?_,U,hP⟩,Kf,(Kf.aZ g Zz).2⟩;show Q (aY p).aZ<_;rw[kO];exact hfn;show Q (iz p)<_;rw[hnl];exact hrn
  generalize hHS:aN 2 ((aY p).bN.map gh)=HS at *;generalize hHG:aN 6 ((aY p).aZ.map Sg.aK)=HG at *;generalize hGL:cM (aY p).ax=GL at *;generalize aN 3 (p.aR.map Rc.aK)=PR,aN 7 (p.funcs.map Fc.aK)=PF,aN 4 (p.ax.map PD.cells)=PG,cw 1 (K9.mQ (aY p).rs)=NM at *;simp[-aE,-az,s34,em,t1,t2,t3,t4,r1,r2,R,T,g1,g2,F,G,aB,AV.aj];refine bM acu.eq_1 (λx:Nat×List Bd×aO=>⟨[(1,.fp 0 0),(2,.fp 1 0),(3,.fp 2 0),(4,.fp 3 0),(6,.fp 5 0),(7,.val (.int .i64 x.1))],
    [[PR,PG,PF],[.aF,.aF,.aF,.int .i64 0,.aF],[.int .i64 0,.int .i64 0],[HS,GL,HG,.int .i64 (dJ p)],[.int .i64 0,.int .i64 0],[HS,GL,HG,.int .i64 (dJ p),cw 3 (x.2.1.map Bd.aK)]],x.2.2⟩)
    (λx=>x.1<=Q p.funcs/\Q x.2.1=x.1/\Zi x.2.1 (rK (aY p) ((aY p).aZ.drop x.1) (p.funcs.drop x.1))=rK (aY p) (aY p).aZ p.funcs)
    (λx=>Q p.funcs-x.1) (0,[],[]) (by simp[xX]) ⟨by simp,rfl,by simp[Zi];split<;>rename_i h<;>exact h.symm⟩ ?_
  rintro⟨k,bs,o⟩ ⟨hk,I,n⟩ ih;simp only at hk I n ih;by_cases xH:k<Q p.funcs;have Af:k<Q (aY p).aZ:=by omega
  have DE:=wk k (by omega);have D:∀h:k<Q (p.funcs.map Fc.aK),(p.funcs.map Fc.aK)[k]=[.str p.funcs[k].name,aN 4 (p.funcs[k].params.map PD.cells),.bool p.funcs[k].bY,.str p.funcs[k].on,.int .i64 p.funcs[k].od,cn p.funcs[k].body,.int .i64 p.funcs[k].a]:=λh=>by simp[Fc.aK]
  have Tp:∀h:k<Q ((aY p).aZ.map Sg.aK),((aY p).aZ.map Sg.aK)[k]=[.str (aY p).aZ[k].nm,cM (aY p).aZ[k].ps,.bool (aY p).aZ[k].bY,.int .i64 (aY p).aZ[k].res.b,.int .i64 (aY p).aZ[k].res.r,.int .i64 (aY p).aZ[k].res.d]:=λh=>by simp[Sg.aK]
  rw[adz Af xH]at n;have hps:Q (aY p).aZ[k].ps=Q p.funcs[k].params:=by simp[aY,Ca,qb]
  have Xh:=aah Af;have m:=OZ (pre:=o) ((Hi p (aY p).aZ[k]).cG (aY p).aZ[k].ps) p.funcs[k].body rfl (y _ Xh) (by
   have:=fM _ (aah xH);show Q (aY p).aZ[k].ps+_<_;rw[hps];exact this)
  unfold Tm at m;have hcd:pe ((Hi p (aY p).aZ[k]).cG (aY p).aZ[k].ps).H ((Hi p (aY p).aZ[k]).cG (aY p).aZ[k].ps).sg.bY ((Hi p (aY p).aZ[k]).cG (aY p).aZ[k].ps).sg.res ((Hi p (aY p).aZ[k]).cG (aY p).aZ[k].ps).V p.funcs[k].body=pe (aY p) (aY p).aZ[k].bY (aY p).aZ[k].res (aY p).aZ[k].ps p.funcs[k].body:=rfl;rw[hcd]at m;have tV:∀P:List AV,Q P=3->wS 3 56 (cw 3 (bs.map Bd.aK)) [P]=Z (cw 3 (bs.map Bd.aK++[P])):=λP hc=>iw (by simp[cy,hc]) (by simp[dj];omega);have Qa:Q (aY p).aZ[k].ps<1000000000:=(y _ Xh).s.V;have Eb:wS 4 40 .aF ((aY p).aZ[k].ps.map Vd.aK)=Z (cw 4 ((aY p).aZ[k].ps.map Vd.aK)):=by
   have:=iw (sz:=4) (bytes:=40) (r:=[]) (new:=(aY p).aZ[k].ps.map Vd.aK) (by simp[cy,Vd.aK]) (by simp[dj];omega);exact this
  have ep:=λai bx=>anu (pre:=o) (ai:=ai) (c:=Hi p (aY p).aZ[k]) (W:=(aY p).aZ[k].ps) (bx:=bx);have l:=λwl ai bx=>l wl ai (aY p).aZ[k] o bx;have bd1:bn (cn p.funcs[k].body)=Y:=cW;have B:(cn p.funcs[k].body).aj=cn p.funcs[k].body:=bZ;have ps1:bn (aN 4 (p.funcs[k].params.map PD.cells))=Y:=bU;have ps2:(aN 4 (p.funcs[k].params.map PD.cells)).aj=aN 4 (p.funcs[k].params.map PD.cells):=cg;have L:bn (cM (aY p).aZ[k].ps)=Y:=iQ;have M:(cM (aY p).aZ[k].ps).aj=cM (aY p).aZ[k].ps:=l8;have O:bf (cM (aY p).aZ[k].ps)=(aY p).aZ[k].ps.map Vd.aK:=tF;have Bt:∀W,((Hi p (aY p).aZ[k]).cG (aY p).aZ[k].ps).cG W=(Hi p (aY p).aZ[k]).cG W:=λ_=>rfl;have m1:bn (cw 4 ((aY p).aZ[k].ps.map Vd.aK))=Y:=ey;generalize hrS:(aY p).aZ.map Sg.aK=RS at *;generalize hrF:p.funcs.map Fc.aK=RF at *;have q:k<Q RS:=by rw[<-hrS,adW];exact Af
  have t:k<Q RF:=by rw[<-hrF,adW];exact xH
  have ZA:=Tp q;have z:=D t;clear Tp D;cases hR:pe (aY p) (aY p).aZ[k].bY (aY p).aZ[k].res (aY p).aZ[k].ps p.funcs[k].body with
  |error a=>
   rw[hR]at n m;simp only at n m;obtain⟨W,v,w1,j⟩:=m 0;rw[Bt]at j;clear m;have yR:=λai=>jj (pre:=o) ai (((Hi p (aY p).aZ[k]).cG W).fail a) [];rw[eX vR]at yR;have J:=λwl ai bx=>ant (pre:=o) (wl:=wl) (ai:=ai) (c:=((Hi p (aY p).aZ[k]).cG W).fail a) (bx:=bx);have Gt:(((Hi p (aY p).aZ[k]).cG W).fail a).fe=3/\(((Hi p (aY p).aZ[k]).cG W).fail a).fa=a:=⟨rfl,rfl⟩;rw[Gt.1,Gt.2]at J;rw[<-n];simp only[FC];have w2:bn v.aj=Y:=(by rw[GK];exact w1);have w3:v.aj.aj=v.aj:=zi v;generalize (((Hi p (aY p).aZ[k]).cG W).fail a).bX=o3,((Hi p (aY p).aZ[k]).cG (aY p).aZ[k].ps).bX=o2,(Hi p (aY p).aZ[k]).bX=o1,cw 4 ((aY p).aZ[k].ps.map Vd.aK)=M4,cn p.funcs[k].body=PB,aN 4 (p.funcs[k].params.map PD.cells)=PP,cM (aY p).aZ[k].ps=SP at *;generalize p.funcs[k]=fk,(aY p).aZ[k]=gk at *;simp[-aE,-az,cZ,E,l,ep,Eb,j,yR,J,R,T,f3,f4,t2,t4,t5,t6,G,r2,g2,N,z,ZA,q,t,B,L,M,O,aA,ay,aB,AV.aj]
  |ok x=>
   obtain⟨C,W⟩:=x;rw[hR]at n m;simp only at n m;have j:=λai=>m ai;clear m;simp only[Bt]at j;have qm:=λai=>jj (pre:=o) ai ((Hi p (aY p).aZ[k]).cG W) [];rw[cH (show ((Hi p (aY p).aZ[k]).cG W).fe=0 from rfl)]at qm;have Qi:=λwl ai bx=>adU (pre:=o) (wl:=wl) (ai:=ai) (c:=(Hi p (aY p).aZ[k]).cG W) (r:=[]) (bx:=bx);have hvW:((Hi p (aY p).aZ[k]).cG W).V=W:=rfl;rw[hvW]at Qi;have iD:=ih (k+1,bs++[⟨W,C,p.funcs[k].a⟩],o++[((Hi p (aY p).aZ[k]).cG W).bX]) ⟨by simp only;omega,by simp[I],n⟩ (by simp only;omega);simp only[List.map_append,List.map_cons,List.map_nil,Bd.aK]at iD;have w1:bn (cM W)=Y:=iQ;have w2:(cM W).aj=cM W:=l8;have ap:=tV [cM W,cn C,.int .i64 p.funcs[k].a] rfl;have c1:bn (cw 9 (Sm.rows C))=Y:=ey;have c2:(cw 9 (Sm.rows C)).aj=cn C:=rfl;have c5:bn (cn C)=Y:=cW;have c6:(cn C).aj=cn C:=bZ;have n1:bn (cw 3 (bs.map Bd.aK++[[cM W,cn C,.int .i64 p.funcs[k].a]]))=Y:=ey;generalize cM W=FW,cw 9 (Sm.rows C)=MC,cn C=SC,((Hi p (aY p).aZ[k]).cG W).bX=o3,((Hi p (aY p).aZ[k]).cG (aY p).aZ[k].ps).bX=o2,(Hi p (aY p).aZ[k]).bX=o1,cw 4 ((aY p).aZ[k].ps.map Vd.aK)=M4,cn p.funcs[k].body=PB,aN 4 (p.funcs[k].params.map PD.cells)=PP,cM (aY p).aZ[k].ps=SP at *;generalize cw 3 (bs.map Bd.aK++[[FW,SC,.int .i64 p.funcs[k].a]])=BN at *;generalize cw 3 (bs.map Bd.aK)=BL,p.funcs[k]=fk,(aY p).aZ[k]=gk at *;simp[-aE,-az,cZ,DE,E,l,ep,Eb,j,qm,Qi,ap,R,T,f3,f4,t2,t4,t5,t6,G,r2,g2,N,z,ZA,q,t,B,L,M,O,w1,w2,c1,c2,c5,n1,aA,ay,aB,AV.aj];exact iD
  have dQ:k=Q p.funcs:=by omega
  have hR:rK (aY p) (aY p).aZ p.funcs=.ok bs:=by
   rw[<-n,dQ,aaF,<-kO,aaF];simp[rK,Zi]
  rw[hR];have n1:bn (cw 3 (bs.map Bd.aK))=Y:=ey;have n2:(cw 3 (bs.map Bd.aK)).aj=aN 3 (bs.map Bd.aK):=rfl;have n4:bn (aN 3 (bs.map Bd.aK))=Y:=bU;simp only[FC,qQ];rw[hHS,hHG,hGL];generalize cw 3 (bs.map Bd.aK)=BL,aN 3 (bs.map Bd.aK)=BV at *;simp[-aE,-az,xH,R,T,f4,t1,t2,t3,t4,F,G,n2,n4,aB,AV.aj]
end R9
