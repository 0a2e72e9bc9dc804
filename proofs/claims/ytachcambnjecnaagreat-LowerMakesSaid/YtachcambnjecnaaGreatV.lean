/- Part of a proof. -/
import Derived.Test.YtachcambnjecnaaGreatT

set_option maxRecDepth 100000
set_option maxHeartbeats 8000000
namespace R9
open Ax Go bu V7 jG ke K9
variable {pre:aj}
theorem eG{s:Sm}:aD (aI s.es)=true/\aD (aT s.bd)=true/\aD (aT s.el)=true:=⟨aR,bn,bn⟩
theorem Pn(c:CK)(s:Sm)(af:Nat)(hn:s.es.length<1000000000)(h:cJ c.sg.bP s.k s.es=false) :
  (bh S).call 0 af 90 [.ptr pre.length 0 0 0,.agg s.row] (pre++[c.aU])=some (.agg [.int .i64 s.k,.str [],.str [],.int .i64 0,.U,.U,.U,.int .i64 s.a,.int .i64 0],pre++[(c.fail s.a).aU]):=by
 have Po:=λaf=>xQ (pre:=pre) af c s [] hn;have oy:=λaf=>jl (pre:=pre) af c s.a [];rw[h]at Po;obtain⟨e1,b1,l1⟩:=eG (s:=s);have e2:(aI s.es).view=aI s.es:=aN;have b2:(aT s.bd).view=aT s.bd:=aO;have l2:(aT s.el).view=aT s.el:=aO;rw[Sm.az]at *;generalize aI s.es=kv at *;generalize aT s.bd=bv at *;generalize aT s.el=lv at *;generalize (c.fail s.a).aU=o2 at *;generalize c.aU=o at *;refine ay (sf:=ox) rfl rfl rfl ?_;simp[-ah,-aa,ox,Po,oy,e1,b1,l1,e2,b2,l2,ag,AV.view]
theorem GN(c:CK)(s:Sm)(af:Nat)(hs:oh c)(hn:s.es.length<1000000000)(h:cJ c.sg.bP s.k s.es=true)(ht:kT c.H s.k s.on s.od=none) :
  (bh S).call 0 af 90 [.ptr pre.length 0 0 0,.agg s.row] (pre++[c.aU])=some (.agg [.int .i64 s.k,.str [],.str [],.int .i64 0,.U,.U,.U,.int .i64 s.a,.int .i64 0],pre++[(c.fail s.a).aU]):=by
 have Po:=λaf=>xQ (pre:=pre) af c s [] hn;have oy:=λaf=>jl (pre:=pre) af c s.a [];rw[h]at Po;obtain⟨e1,b1,l1⟩:=eG (s:=s);have e2:(aI s.es).view=aI s.es:=aN;have b2:(aT s.bd).view=aT s.bd:=aO;have l2:(aT s.el).view=aT s.el:=aO;have pU:=λwl af st=>Ij wl af c.H.rs s.on s.od st hs.R;have Kj:=λwl af bx=>uN (pre:=pre) (wl:=wl) (af:=af) (c:=c) (r:=[]) (bx:=bx);rw[Sm.az]at *;generalize aI s.es=kv at *;generalize aT s.bd=bv at *;generalize aT s.el=lv at *;generalize (c.fail s.a).aU=o2 at *;generalize c.aU=o at *;unfold kT at ht;by_cases h1:s.k=1;rw[if_pos (.inl h1)]at ht;have h2:(bZ c.H.rs s.on s.od).2=false:=by
  cases hh:(bZ c.H.rs s.on s.od).2 with
  |false=>rfl|true=>rw[hh]at ht;cases ht
 unfold LJ at pU;rw[h2]at pU;refine ay (sf:=ox) rfl rfl rfl ?_;have h1:(s.k=1)=True:=eq_true h1;simp[-ah,-aa,ox,Po,oy,h1,Kj,pU,e1,b1,l1,e2,b2,l2,aV,bG,ag,AV.view];by_cases h2:s.k=2;rw[if_pos (.inr h2)]at ht;have h3:(bZ c.H.rs s.on s.od).2=false:=by
  cases hh:(bZ c.H.rs s.on s.od).2 with
  |false=>rfl|true=>rw[hh]at ht;cases ht
 unfold LJ at pU;rw[h3]at pU;refine ay (sf:=ox) rfl rfl rfl ?_;have h2:(s.k=2)=True:=eq_true h2;simp[-ah,-aa,ox,Po,oy,h1,h2,Kj,pU,e1,b1,l1,e2,b2,l2,aV,bG,ag,AV.view];rw[if_neg (by omega)]at ht;cases ht
def iq:bw:=gi (gi (gi (gi (gi (gi (gi ox.body))))))
theorem Pp(c:CK)(s:Sm)(af:Nat)(t:T3)(hs:oh c)(hn:s.es.length<1000000000)(h:cJ c.sg.bP s.k s.es=true)(hk:s.k=1\/s.k=2)(ht:kT c.H s.k s.on s.od=some t){Q:Ex->St->Prop}
  (go:W S 0 (pre.length+1) ox.results Q [.code (.loop rD),.jF 0,.code iq] .normal
   ⟨[(0,.val (.ptr pre.length 0 0 0)),(3,.fp 0 0),(4,.fp 1 0),(5,.fp 2 0),(6,.fp 3 0),(7,.val (.bool true)),(10,.val (.int .i64 0))],[s.row,Z9,[.int .i64 s.k,.str [],.str s.on,.int .i64 s.od,.U,.U,.U,.int .i64 s.a,.int .i64 0],t.cells,t.cells,[]],pre++[c.aU]⟩) :
  W S (ox.mode.vh (pre++[c.aU]).length 0) (ox.mode.oC (pre++[c.aU]).length af) ox.results Q [.code ox.body] .normal (pI ox [.ptr pre.length 0 0 0,.agg s.row] (pre++[c.aU])):=by
 have Po:=λaf=>xQ (pre:=pre) af c s [] hn;rw[h]at Po;obtain⟨e1,b1,l1⟩:=eG (s:=s);have e2:(aI s.es).view=aI s.es:=aN;have b2:(aT s.bd).view=aT s.bd:=aO;have l2:(aT s.el).view=aT s.el:=aO;have pU:=λwl af st=>Ij wl af c.H.rs s.on s.od st hs.R;have Kj:=λwl af bx=>uN (pre:=pre) (wl:=wl) (af:=af) (c:=c) (r:=[]) (bx:=bx);rw[Sm.az]at *;generalize aI s.es=kv at *;generalize aT s.bd=bv at *;generalize aT s.el=lv at *;generalize c.aU=o at *;unfold kT at ht;rw[if_pos hk]at ht;split at ht;rename_i h2;cases ht;unfold LJ at pU;rw[h2]at pU;generalize (bZ c.H.rs s.on s.od).1=t at *;rcases hk with h1|h1;have h1:(s.k=1)=True:=eq_true h1;simp[-ah,-aa,ox,Po,h1,Kj,pU,e1,b1,l1,e2,b2,l2,aV,bG,ag,AV.view];exact go;have h0:¬s.k=1:=by omega
 have h1:(s.k=2)=True:=eq_true h1;simp[-ah,-aa,ox,Po,h0,h1,Kj,pU,e1,b1,l1,e2,b2,l2,aV,bG,ag,AV.view];exact go;cases ht
theorem GO(c:CK)(s:Sm)(af:Nat)(hn:s.es.length<1000000000)(h:cJ c.sg.bP s.k s.es=true)(hk:¬(s.k=1\/s.k=2)){Q:Ex->St->Prop}
  (go:W S 0 (pre.length+1) ox.results Q [.code (.loop rD),.jF 0,.code iq] .normal
   ⟨[(0,.val (.ptr pre.length 0 0 0)),(3,.fp 0 0),(4,.fp 1 0),(5,.fp 2 0),(6,.fp 3 0),(7,.val (.bool false)),(10,.val (.int .i64 0))],[s.row,Z9,[.int .i64 s.k,.str [],.str [],.int .i64 0,.U,.U,.U,.int .i64 s.a,.int .i64 0],T0.cells,[],[]],pre++[c.aU]⟩) :
  W S (ox.mode.vh (pre++[c.aU]).length 0) (ox.mode.oC (pre++[c.aU]).length af) ox.results Q [.code ox.body] .normal (pI ox [.ptr pre.length 0 0 0,.agg s.row] (pre++[c.aU])):=by
 have Po:=λaf=>xQ (pre:=pre) af c s [] hn;rw[h]at Po;obtain⟨e1,b1,l1⟩:=eG (s:=s);have e2:(aI s.es).view=aI s.es:=aN;have b2:(aT s.bd).view=aT s.bd:=aO;have l2:(aT s.el).view=aT s.el:=aO;rw[Sm.az]at *;generalize aI s.es=kv at *;generalize aT s.bd=bv at *;generalize aT s.el=lv at *;generalize c.aU=o at *;have h1:¬s.k=1:=λe=>hk (.inl e);have h2:¬s.k=2:=λe=>hk (.inr e);simp[-ah,-aa,ox,Po,h1,h2,e1,b1,l1,e2,b2,l2,ag,AV.view];exact go
end R9
namespace R9
open Ax Go bu V7 jG ke K9
variable {pre:aj}
def E2(H:Hd)(bP:Bool)(bz:T3)(V:List Vd)(s:Sm)(ys:List E)(t:T3):Except Int (Sm×List Vd):=match j6 H bz V s.k s.nm ys t with
 |none=>.error s.a|some (r,W)=>if s.k=5 then
   match kj H bP bz W s.bd with
   |.error x=>.error x|.ok (b,W1)=>match kj H bP bz W1 s.el with
    |.error x=>.error x|.ok (c,W2)=>.ok (.mk s.k (cw s.k s.nm) (bH s.k s.on) (bJ s.k s.od) ys b c s.a r,W2)
  else if s.k=6 then
   match kj H bP bz W s.bd with
   |.error x=>.error x|.ok (b,W1)=>.ok (.mk s.k (cw s.k s.nm) (bH s.k s.on) (bJ s.k s.od) ys b [] s.a r,W1)
  else .ok (.mk s.k (cw s.k s.nm) (bH s.k s.on) (bJ s.k s.od) ys [] [] s.a r,W)
def TQ(pre:aj)(Q:Ex->St->Prop)(s:Sm)(ev:AV)(o:dz)(dc:Bool)(Mh:List UInt8)(Mg:Int)(b3 b4:List AV):Prop:=
 W S 0 (pre.length+1) ox.results Q [.code iq] .normal
  ⟨[(0,.val (.ptr pre.length 0 0 0)),(3,.fp 0 0),(4,.fp 1 0),(5,.fp 2 0),(6,.fp 3 0),(7,.val (.bool dc))],[s.row,Z9,[.int .i64 s.k,.str [],.str Mh,.int .i64 Mg,ev,.U,.U,.int .i64 s.a,.int .i64 0],b3,b4,[]],pre++[o]⟩
def TG(pre:aj)(c:CK)(s:Sm)(ev:AV)(o:dz)(dc:Bool)(Mh:List UInt8)(Mg:Int)(b3 b4:List AV)(v:AV)(st:aj):Prop:=TQ pre (zO ox.results .kh (pre++[c.aU]) (v,st)) s ev o dc Mh Mg b3 b4
theorem Mi(c:CK)(s:Sm)(a:Int)(ev:AV)(dc:Bool)(Mh:List UInt8)(Mg:Int)(b3 b4:List AV)(hv:aD ev=true) :
  TG pre c s ev (c.fail a).aU dc Mh Mg b3 b4 (.agg [.int .i64 s.k,.str [],.str Mh,.int .i64 Mg,ev.view,.U,.U,.int .i64 s.a,.int .i64 0]) (pre++[(c.fail a).aU]):=by
 unfold TG TQ;have xZ:=fV (c:=c) (a:=a);have gr:=λaf=>gC (pre:=pre) af (c.fail a) [];rw[decide_eq_false xZ]at gr;generalize (c.fail a).aU=o2 at *;have Ws:aD ev.view=true:=by rw[jY];exact hv
 have hv3:ev.view.view=ev.view:=oM ev;generalize s.row=row at *;simp[-ah,-aa,iq,gi,ox,gr,Ws,ag,AV.view]
theorem pF(c:CK)(s:Sm)(hf:c.fe=0)(hw:pV c)(dH:c.V.length+Sm.sz s<1000000000)(h:cJ c.sg.bP s.k s.es=true)(t:T3)(ht:kT c.H s.k s.on s.od=some t)
  (rest:∀ys,tg c.H c.V s.k s.es=.ok ys->match E2 c.H c.sg.bP c.sg.bz c.V s ys t with
   |.ok (y,W)=>TG pre c s (bD 11 (E.rows ys)) c.aU (decide (s.k=1\/s.k=2)) (bH s.k s.on) (bJ s.k s.od) (if s.k=1\/s.k=2 then t.cells else T0.cells) (if s.k=1\/s.k=2 then t.cells else []) (.agg y.row) (pre++[(c.aZ W).aU])|.error a=>∃W row,EC row/\TG pre c s (bD 11 (E.rows ys)) c.aU (decide (s.k=1\/s.k=2)) (bH s.k s.on) (bJ s.k s.od) (if s.k=1\/s.k=2 then t.cells else T0.cells) (if s.k=1\/s.k=2 then t.cells else []) (.agg row) (pre++[((c.aZ W).fail a).aU])):qH pre c s:=by
 have hz:=Sm.jM s;have E8:=E.dG s.es;have jR:∀x∈s.es,J0 pre c x:=λx hx=>eR c hf hw x (by have:=E.iA hx;omega);have jO:c.aZ c.V=c:=rfl;have ajX:xW c.H c.sg.bP c.sg.bz c.V s=match tg c.H c.V s.k s.es with
   |.error x=>.error x|.ok ys=>E2 c.H c.sg.bP c.sg.bz c.V s ys t:=by rw[nq,if_pos h,ht];rfl
 unfold qH;rw[ajX];have key:∀af (Q:Ex->St->Prop),(∀ys,tg c.H c.V s.k s.es=.ok ys->TQ pre Q s (bD 11 (E.rows ys)) c.aU (decide (s.k=1\/s.k=2)) (bH s.k s.on) (bJ s.k s.od) (if s.k=1\/s.k=2 then t.cells else T0.cells) (if s.k=1\/s.k=2 then t.cells else []))->
   (∀a ev,aD ev=true->tg c.H c.V s.k s.es=.error a->TQ pre Q s ev (c.fail a).aU (decide (s.k=1\/s.k=2)) (bH s.k s.on) (bJ s.k s.od) (if s.k=1\/s.k=2 then t.cells else T0.cells) (if s.k=1\/s.k=2 then t.cells else []))->
   W S (ox.mode.vh (pre++[c.aU]).length 0) (ox.mode.oC (pre++[c.aU]).length af) ox.results Q [.code ox.body] .normal (pI ox [.ptr pre.length 0 0 0,.agg s.row] (pre++[c.aU])):=by
  intro af Q g1 g2;unfold TQ at g1 g2;by_cases hk:s.k=1\/s.k=2;have h9:s.k≠9:=by omega
  have he9:tg c.H c.V s.k s.es=kN c.H c.V s.es:=if_neg h9;have k1:bH s.k s.on=s.on:=if_pos hk;have k2:bJ s.k s.od=s.od:=if_pos hk;simp only[if_pos hk,decide_eq_true hk,k1,k2,he9]at g1 g2;exact Pp c s af t hw.s (by omega) h hk ht (NJ c s hf (by omega) h9 jR _ _ _ _ _ _ _ _ _ _ _ _ _ rfl g1 g2);have k1:bH s.k s.on=[]:=if_neg hk;have k2:bJ s.k s.od=0:=if_neg hk;simp only[if_neg hk,decide_eq_false hk,k1,k2]at g1 g2;by_cases h9:s.k=9;obtain⟨e,hee⟩:∃e,s.es=[e]:=by
   rw[h9]at h;unfold cJ at h;rw[if_neg (by decide),if_neg (by decide),if_neg (by decide),if_pos rfl]at h;match hh:s.es,h with
   |[e],_=>exact⟨e,rfl⟩
  have he9:tg c.H c.V s.k s.es=match xE c.H c.V e with
    |.error x=>.error x|.ok y=>.ok [y]:=by unfold tg;rw[if_pos h9,hee];rfl
  rw[he9]at g1 g2;exact GO c s af (by omega) h hk (WG c s e hf h9 hee (jR e (by rw[hee];exact List.mem_cons_self)) _ _ _ _ _ _ _ _ _ _ _ _ _ rfl
   (λy hy=>g1 [y] (by rw[hy])) (λa ev YM hy=>g2 a ev YM (by rw[hy])))
  have he9:tg c.H c.V s.k s.es=kN c.H c.V s.es:=if_neg h9;rw[he9]at g1 g2;exact GO c s af (by omega) h hk (NJ c s hf (by omega) h9 jR _ _ _ _ _ _ _ _ _ _ _ _ _ rfl g1 g2)
 cases hv:tg c.H c.V s.k s.es with
 |error a=>
  simp only;intro af;obtain⟨v,bV,h1,row,h2,h3,h4⟩:∃v bV,(bh S).call 0 af 90 [.ptr pre.length 0 0 0,.agg s.row] (pre++[c.aU])=some (v,bV)/\∃row,EC row/\v=.agg row/\bV=pre++[(c.fail a).aU]:=by
   refine iT (sf:=ox) rfl rfl rfl (key af _ (λys hz=>by rw[hv]at hz;cases hz) λa' ev YM hz=>?_);rw[hv]at hz;cases hz;have hT:=Mi (pre:=pre) c s a ev (decide (s.k=1\/s.k=2)) (bH s.k s.on) (bJ s.k s.od) (if s.k=1\/s.k=2 then t.cells else T0.cells) (if s.k=1\/s.k=2 then t.cells else []) YM;unfold TG TQ at hT;unfold TQ;obtain⟨x',s',g1,g2⟩:=hT;exact⟨x',s',g1,_,g2,_,⟨_,_,_,_,_,_,_,_,_,rfl,by rw[jY];exact YM,rfl,rfl⟩,rfl,rfl⟩
  subst h3 h4;exact⟨c.V,row,h2,h1⟩
 |ok ys=>
  simp only;have rest:=rest ys hv;cases hR:E2 c.H c.sg.bP c.sg.bz c.V s ys t with
  |ok x=>
   obtain⟨y,W⟩:=x;rw[hR]at rest;simp only at rest ⊢;intro af;exact ay (sf:=ox) rfl rfl rfl (key af _ (λzs hz=>by rw[hv]at hz;cases hz;exact rest) λa ev _ hz=>by rw[hv]at hz;cases hz)
  |error a=>
   rw[hR]at rest;simp only at rest ⊢;intro af;obtain⟨W,row,hb,rest⟩:=rest;exact⟨W,row,hb,ay (sf:=ox) rfl rfl rfl (key af _ (λzs hz=>by rw[hv]at hz;cases hz;exact rest) λa ev _ hz=>by rw[hv]at hz;cases hz)⟩
end R9
namespace R9
open Ax Go bu V7 jG ke K9
variable {pre:aj}
theorem xR{es ys:List E}{H:Hd}{V:List Vd}(h:es.length=1)(hv:kN H V es=.ok ys):∃y,ys=[y]:=by
 have:=nY hv;match ys,this with
 |[y],_=>exact⟨y,rfl⟩|[],h'=>simp at h';omega|_::_::_,h'=>simp at h';omega
theorem WH{es ys:List E}{H:Hd}{V:List Vd}(h:es.length=2)(hv:kN H V es=.ok ys):∃y z,ys=[y,z]:=by
 have:=nY hv;match ys,this with
 |[y,z],_=>exact⟨y,z,rfl⟩|[],h'=>simp at h';omega|[_],h'=>simp at h';omega|_::_::_::_,h'=>simp at h';omega
theorem mT(k:Int)(nm on:List UInt8)(od:Int)(es:List E)(bd el:List Sm)(a cH:Int):(Sm.mk k nm on od es bd el a cH).row=[.int .i64 k,.str nm,.str on,.int .i64 od,aI es,aT bd,aT el,.int .i64 a,.int .i64 cH]:=Sm.az _
theorem pD:aT []=.U:=rfl
theorem LX(c:CK)(s:Sm)(hf:c.fe=0)(hw:pV c)(dH:c.V.length+Sm.sz s<1000000000)(hk:s.k=8)(h:cJ c.sg.bP s.k s.es=true):qH pre c s:=by
 refine pF c s hf hw dH h T0 (by rw[hk];rfl) λys rL=>?_;have jR:tg c.H c.V s.k s.es=kN c.H c.V s.es:=if_neg (by omega);rw[jR]at rL;rw[hk]at h;obtain⟨y,rfl⟩:=xR (by simpa [cJ] using h) rL;have fy:=λaf=>gC (pre:=pre) af c [];rw[decide_eq_true hf]at fy;have eI:=λwl af st=>ot wl af st;have eT:=λwl af st=>l8 wl af st;have oy:=λaf=>jl (pre:=pre) af c s.a [];have eV:=λaf=>gO (pre:=pre) af c s.nm [] hw.s;have Cv:=λwl af bx=>wJ (pre:=pre) (wl:=wl) (af:=af) (c:=c) (r:=[]) (bx:=bx);have Il:=λwl af bx=>yy (pre:=pre) (wl:=wl) (af:=af) (c:=c) (r:=[]) (bx:=bx);obtain⟨e1,b1,l1⟩:=eG (s:=s);have b2:(aT s.bd).view=aT s.bd:=aO;have l2:(aT s.el).view=aT s.el:=aO;have m1:aD (bD 11 (E.rows [y]))=true:=bY;have m2:(bD 11 (E.rows [y])).view=aI [y]:=rfl;have m3:aM (bD 11 (E.rows [y]))=[y.row]:=rfl;have m4:bX 11 (bD 11 (E.rows [y]))=true:=by simp[E.rows,bL,E.az]
 have v1:aD (aI [y])=true:=aR;have v2:(aI [y]).view=aI [y]:=aN;have v3:aM (aI [y])=[y.row]:=rfl;have v4:bX 11 (aI [y])=true:=iM;have jO:c.aZ c.V=c:=rfl;have hp:(decide ((8:Int)=1\/(8:Int)=2))=false:=by decide
 have uv:¬((8:Int)=1\/(8:Int)=2):=by decide
 have k1:bH 8 s.on=[]:=rfl;have k2:bJ 8 s.od=0:=rfl;have hR:E2 c.H c.sg.bP c.sg.bz c.V s [y] T0=if y.ty=tI then .ok (.mk 8 [] [] 0 [y] [] [] s.a 0,c.V) else .error s.a:=by
  unfold E2 j6;simp only[hk];by_cases q:y.ty=tI;simp[qS,q,cw,bH,bJ];simp[qS,q]
 rw[hR,hk];rw[k1,k2,hp,if_neg uv,if_neg uv];rw[E.az y]at m3 v3;by_cases q:y.ty=tI;rw[if_pos q];simp only;unfold TG TQ;rw[mT,Sm.az s,hk,jO,pD];generalize bD 11 (E.rows [y])=M at *;generalize aI [y]=yv at *;generalize aI s.es=kv at *;generalize aT s.bd=bv at *;generalize aT s.el=lv at *;generalize c.aU=o at *;simp[-ah,-aa,aY,iq,gi,ox,fy,eI,q,m2,v1,v3,v4,au,an,ag,AV.view];rw[if_neg q];simp only;refine⟨c.V,[.int .i64 8,.str [],.str [],.int .i64 0,aI [y],.U,.U,.int .i64 s.a,.int .i64 0],⟨_,_,_,_,_,_,_,_,_,rfl,v1,rfl,rfl⟩,?_⟩;unfold TG TQ;rw[Sm.az s,hk,jO];generalize bD 11 (E.rows [y])=M at *;generalize aI [y]=yv at *;generalize aI s.es=kv at *;generalize aT s.bd=bv at *;generalize aT s.el=lv at *;generalize (c.fail s.a).aU=o2 at *;generalize c.aU=o at *;simp[-ah,-aa,aY,iq,gi,ox,fy,eI,K9.dI,q,oy,m2,v1,v3,v4,au,an,ag,AV.view]
theorem LQ(c:CK)(s:Sm)(hf:c.fe=0)(hw:pV c)(dH:c.V.length+Sm.sz s<1000000000)(hk:s.k=4)(h:cJ c.sg.bP s.k s.es=true):qH pre c s:=by
 refine pF c s hf hw dH h T0 (by rw[hk];rfl) λys rL=>?_;have jR:tg c.H c.V s.k s.es=kN c.H c.V s.es:=if_neg (by omega);rw[jR]at rL;rw[hk]at h;obtain⟨y,z,rfl⟩:=WH (by
  unfold cJ at h;rw[if_neg (by decide),if_pos rfl]at h;match hh:s.es,h with
  |[_,_],_=>rfl) rL
 have fy:=λaf=>gC (pre:=pre) af c [];rw[decide_eq_true hf]at fy;have eI:=λwl af st=>ot wl af st;have eT:=λwl af st=>l8 wl af st;have oy:=λaf=>jl (pre:=pre) af c s.a [];have eV:=λaf=>gO (pre:=pre) af c s.nm [] hw.s;have Cv:=λwl af bx=>wJ (pre:=pre) (wl:=wl) (af:=af) (c:=c) (r:=[]) (bx:=bx);have Il:=λwl af bx=>yy (pre:=pre) (wl:=wl) (af:=af) (c:=c) (r:=[]) (bx:=bx);obtain⟨e1,b1,l1⟩:=eG (s:=s);have b2:(aT s.bd).view=aT s.bd:=aO;have l2:(aT s.el).view=aT s.el:=aO;have m1:aD (bD 11 (E.rows [y,z]))=true:=bY;have m2:(bD 11 (E.rows [y,z])).view=aI [y,z]:=rfl;have m3:aM (bD 11 (E.rows [y,z]))=[y.row,z.row]:=rfl;have m4:bX 11 (bD 11 (E.rows [y,z]))=true:=by simp[E.rows,bL,E.az]
 have v1:aD (aI [y,z])=true:=aR;have v2:(aI [y,z]).view=aI [y,z]:=aN;have v3:aM (aI [y,z])=[y.row,z.row]:=rfl;have v4:bX 11 (aI [y,z])=true:=iM;have jO:c.aZ c.V=c:=rfl;have hp:(decide ((4:Int)=1\/(4:Int)=2))=false:=by decide
 have uv:¬((4:Int)=1\/(4:Int)=2):=by decide
 have k1:bH 4 s.on=[]:=rfl;have k2:bJ 4 s.od=0:=rfl;have hR:E2 c.H c.sg.bP c.sg.bz c.V s [y,z] T0=if y.ty=z.ty then .ok (.mk 4 [] [] 0 [y,z] [] [] s.a 0,c.V) else .error s.a:=by
  unfold E2 j6;simp only[hk];by_cases q:y.ty=z.ty;simp[qS,B0,q,cw,bH,bJ];simp[qS,B0,q]
 rw[hR,hk];rw[k1,k2,hp,if_neg uv,if_neg uv];rw[E.az y,E.az z]at m3 v3;by_cases q:y.ty=z.ty;rw[if_pos q];have q:(y.ty=z.ty)=True:=eq_true q;simp only;unfold TG TQ;rw[mT,Sm.az s,hk,jO,pD];generalize bD 11 (E.rows [y,z])=M at *;generalize aI [y,z]=yv at *;generalize aI s.es=kv at *;generalize aT s.bd=bv at *;generalize aT s.el=lv at *;generalize c.aU=o at *;simp[-ah,-aa,aY,iq,gi,ox,fy,dU,q,m2,v1,v3,v4,au,an,ag,AV.view];rw[if_neg q];simp only;refine⟨c.V,[.int .i64 4,.str [],.str [],.int .i64 0,aI [y,z],.U,.U,.int .i64 s.a,.int .i64 0],⟨_,_,_,_,_,_,_,_,_,rfl,v1,rfl,rfl⟩,?_⟩;unfold TG TQ;rw[Sm.az s,hk,jO];generalize bD 11 (E.rows [y,z])=M at *;generalize aI [y,z]=yv at *;generalize aI s.es=kv at *;generalize aT s.bd=bv at *;generalize aT s.el=lv at *;generalize (c.fail s.a).aU=o2 at *;generalize c.aU=o at *;simp[-ah,-aa,aY,iq,gi,ox,fy,dU,q,oy,m2,v1,v3,v4,au,an,ag,AV.view]
theorem LY(c:CK)(s:Sm)(hf:c.fe=0)(hw:pV c)(dH:c.V.length+Sm.sz s<1000000000)(hk:s.k=9)(h:cJ c.sg.bP s.k s.es=true):qH pre c s:=by
 refine pF c s hf hw dH h T0 (by rw[hk];rfl) λys rL=>?_;obtain⟨y,rfl⟩:∃y,ys=[y]:=by
  unfold tg at rL;rw[hk]at rL h;unfold cJ at h;rw[if_neg (by decide),if_neg (by decide),if_neg (by decide),if_pos rfl]at h;rw[if_pos rfl]at rL;match hh:s.es,h with
  |[e],_=>
   rw[hh]at rL;simp only at rL;cases hx:xE c.H c.V e with
   |error a=>rw[hx]at rL;cases rL|ok y=>rw[hx]at rL;cases rL;exact⟨y,rfl⟩
 have fy:=λaf=>gC (pre:=pre) af c [];rw[decide_eq_true hf]at fy;have eI:=λwl af st=>ot wl af st;have eT:=λwl af st=>l8 wl af st;have oy:=λaf=>jl (pre:=pre) af c s.a [];have eV:=λaf=>gO (pre:=pre) af c s.nm [] hw.s;have Cv:=λwl af bx=>wJ (pre:=pre) (wl:=wl) (af:=af) (c:=c) (r:=[]) (bx:=bx);have Il:=λwl af bx=>yy (pre:=pre) (wl:=wl) (af:=af) (c:=c) (r:=[]) (bx:=bx);obtain⟨e1,b1,l1⟩:=eG (s:=s);have b2:(aT s.bd).view=aT s.bd:=aO;have l2:(aT s.el).view=aT s.el:=aO;have m1:aD (bD 11 (E.rows [y]))=true:=bY;have m2:(bD 11 (E.rows [y])).view=aI [y]:=rfl;have m3:aM (bD 11 (E.rows [y]))=[y.row]:=rfl;have m4:bX 11 (bD 11 (E.rows [y]))=true:=by simp[E.rows,bL,E.az]
 have v1:aD (aI [y])=true:=aR;have v2:(aI [y]).view=aI [y]:=aN;have v3:aM (aI [y])=[y.row]:=rfl;have v4:bX 11 (aI [y])=true:=iM;have jO:c.aZ c.V=c:=rfl;have hp:(decide ((9:Int)=1\/(9:Int)=2))=false:=by decide
 have uv:¬((9:Int)=1\/(9:Int)=2):=by decide
 have k1:bH 9 s.on=[]:=rfl;have k2:bJ 9 s.od=0:=rfl;have hR:E2 c.H c.sg.bP c.sg.bz c.V s [y] T0=.ok (.mk 9 [] [] 0 [y] [] [] s.a 0,c.V):=by
  unfold E2 j6;simp[hk,cw,bH,bJ]
 rw[hR,hk];rw[k1,k2,hp,if_neg uv,if_neg uv];rw[E.az y]at m3 v3;simp only;unfold TG TQ;rw[mT,Sm.az s,hk,jO,pD];generalize bD 11 (E.rows [y])=M at *;generalize aI [y]=yv at *;generalize aI s.es=kv at *;generalize aT s.bd=bv at *;generalize aT s.el=lv at *;generalize c.aU=o at *;simp[-ah,-aa,iq,gi,ox,fy,m2,v1,ag,AV.view]
theorem LP(c:CK)(s:Sm)(hf:c.fe=0)(hw:pV c)(dH:c.V.length+Sm.sz s<1000000000)(hk:s.k=3)(h:cJ c.sg.bP s.k s.es=true):qH pre c s:=by
 refine pF c s hf hw dH h T0 (by rw[hk];rfl) λys rL=>?_;have jR:tg c.H c.V s.k s.es=kN c.H c.V s.es:=if_neg (by omega);rw[jR]at rL;rw[hk]at h;obtain⟨y,rfl⟩:=xR (by simpa [cJ] using h) rL;have fy:=λaf=>gC (pre:=pre) af c [];rw[decide_eq_true hf]at fy;have eI:=λwl af st=>ot wl af st;have eT:=λwl af st=>l8 wl af st;have oy:=λaf=>jl (pre:=pre) af c s.a [];have eV:=λaf=>gO (pre:=pre) af c s.nm [] hw.s;have Cv:=λwl af bx=>wJ (pre:=pre) (wl:=wl) (af:=af) (c:=c) (r:=[]) (bx:=bx);have Il:=λwl af bx=>yy (pre:=pre) (wl:=wl) (af:=af) (c:=c) (r:=[]) (bx:=bx);obtain⟨e1,b1,l1⟩:=eG (s:=s);have b2:(aT s.bd).view=aT s.bd:=aO;have l2:(aT s.el).view=aT s.el:=aO;have m1:aD (bD 11 (E.rows [y]))=true:=bY;have m2:(bD 11 (E.rows [y])).view=aI [y]:=rfl;have m3:aM (bD 11 (E.rows [y]))=[y.row]:=rfl;have m4:bX 11 (bD 11 (E.rows [y]))=true:=by simp[E.rows,bL,E.az]
 have v1:aD (aI [y])=true:=aR;have v2:(aI [y]).view=aI [y]:=aN;have v3:aM (aI [y])=[y.row]:=rfl;have v4:bX 11 (aI [y])=true:=iM;have jO:c.aZ c.V=c:=rfl;have hp:(decide ((3:Int)=1\/(3:Int)=2))=false:=by decide
 have uv:¬((3:Int)=1\/(3:Int)=2):=by decide
 have k1:bH 3 s.on=[]:=rfl;have k2:bJ 3 s.od=0:=rfl;have hR:E2 c.H c.sg.bP c.sg.bz c.V s [y] T0=match rZ c.H c.V s.nm with
   |some (u,r)=>if u=y.ty then .ok (.mk 3 s.nm [] 0 [y] [] [] s.a r,c.V) else .error s.a
   |none=>.error s.a:=by
  unfold E2 j6;simp only[hk];cases rZ c.H c.V s.nm with
  |none=>simp|some x=>by_cases q:x.1=y.ty<;>simp[qS,q,cw,bH,bJ]
 rw[hR,hk];rw[k1,k2,hp,if_neg uv,if_neg uv];rw[E.az y]at m3 v3;cases hx:rZ c.H c.V s.nm with
 |none=>
  rw[hx]at eV;simp only;refine⟨c.V,[.int .i64 3,.str [],.str [],.int .i64 0,aI [y],.U,.U,.int .i64 s.a,.int .i64 0],⟨_,_,_,_,_,_,_,_,_,rfl,v1,rfl,rfl⟩,?_⟩;unfold TG TQ;rw[Sm.az s,hk,jO];generalize bD 11 (E.rows [y])=M at *;generalize aI [y]=yv at *;generalize aI s.es=kv at *;generalize aT s.bd=bv at *;generalize aT s.el=lv at *;generalize (c.fail s.a).aU=o2 at *;generalize c.aU=o at *;simp[-ah,-aa,iq,gi,ox,fy,eV,wK,oy,m2,v1,au,an,ag,AV.view]
 |some x=>
  obtain⟨u,r⟩:=x;rw[hx]at eV;simp only;by_cases q:u=y.ty;rw[if_pos q];have q:(u=y.ty)=True:=eq_true q;simp only;unfold TG TQ;rw[mT,Sm.az s,hk,jO,pD];generalize bD 11 (E.rows [y])=M at *;generalize aI [y]=yv at *;generalize aI s.es=kv at *;generalize aT s.bd=bv at *;generalize aT s.el=lv at *;generalize c.aU=o at *;simp[-ah,-aa,aY,iq,gi,ox,fy,eV,wK,dU,q,m2,v1,v3,v4,au,an,ag,AV.view];rw[if_neg q];simp only;refine⟨c.V,[.int .i64 3,.str [],.str [],.int .i64 0,aI [y],.U,.U,.int .i64 s.a,.int .i64 r],⟨_,_,_,_,_,_,_,_,_,rfl,v1,rfl,rfl⟩,?_⟩;unfold TG TQ;rw[Sm.az s,hk,jO];generalize bD 11 (E.rows [y])=M at *;generalize aI [y]=yv at *;generalize aI s.es=kv at *;generalize aT s.bd=bv at *;generalize aT s.el=lv at *;generalize (c.fail s.a).aU=o2 at *;generalize c.aU=o at *;simp[-ah,-aa,aY,iq,gi,ox,fy,eV,wK,dU,q,oy,m2,v1,v3,v4,au,an,ag,AV.view]
theorem WI(c:CK)(s:Sm)(hf:c.fe=0)(hw:pV c)(dH:c.V.length+Sm.sz s<1000000000)(hk:s.k=7)(h:cJ c.sg.bP s.k s.es=true)(hh:c.sg.bP=true):qH pre c s:=by
 refine pF c s hf hw dH h T0 (by rw[hk];rfl) λys rL=>?_;have jR:tg c.H c.V s.k s.es=kN c.H c.V s.es:=if_neg (by omega);rw[jR]at rL;rw[hk]at h;obtain⟨y,rfl⟩:=xR (by rw[hh]at h;simpa [cJ] using h) rL;have fy:=λaf=>gC (pre:=pre) af c [];rw[decide_eq_true hf]at fy;have eI:=λwl af st=>ot wl af st;have eT:=λwl af st=>l8 wl af st;have oy:=λaf=>jl (pre:=pre) af c s.a [];have eV:=λaf=>gO (pre:=pre) af c s.nm [] hw.s;have Cv:=λwl af bx=>wJ (pre:=pre) (wl:=wl) (af:=af) (c:=c) (r:=[]) (bx:=bx);have Il:=λwl af bx=>yy (pre:=pre) (wl:=wl) (af:=af) (c:=c) (r:=[]) (bx:=bx);obtain⟨e1,b1,l1⟩:=eG (s:=s);have b2:(aT s.bd).view=aT s.bd:=aO;have l2:(aT s.el).view=aT s.el:=aO;have m1:aD (bD 11 (E.rows [y]))=true:=bY;have m2:(bD 11 (E.rows [y])).view=aI [y]:=rfl;have m3:aM (bD 11 (E.rows [y]))=[y.row]:=rfl;have m4:bX 11 (bD 11 (E.rows [y]))=true:=by simp[E.rows,bL,E.az]
 have v1:aD (aI [y])=true:=aR;have v2:(aI [y]).view=aI [y]:=aN;have v3:aM (aI [y])=[y.row]:=rfl;have v4:bX 11 (aI [y])=true:=iM;have jO:c.aZ c.V=c:=rfl;have hp:(decide ((7:Int)=1\/(7:Int)=2))=false:=by decide
 have uv:¬((7:Int)=1\/(7:Int)=2):=by decide
 have k1:bH 7 s.on=[]:=rfl;have k2:bJ 7 s.od=0:=rfl;have hR:E2 c.H c.sg.bP c.sg.bz c.V s [y] T0=if y.ty=c.sg.bz then .ok (.mk 7 [] [] 0 [y] [] [] s.a 0,c.V) else .error s.a:=by
  unfold E2 j6;simp only[hk];by_cases q:y.ty=c.sg.bz;simp[qS,q,cw,bH,bJ];simp[qS,q]
 rw[hh]at Cv;rw[hR,hk];rw[k1,k2,hp,if_neg uv,if_neg uv];rw[E.az y]at m3 v3;by_cases q:y.ty=c.sg.bz;rw[if_pos q];have q:(y.ty=c.sg.bz)=True:=eq_true q;simp only;unfold TG TQ;rw[mT,Sm.az s,hk,jO,pD];generalize bD 11 (E.rows [y])=M at *;generalize aI [y]=yv at *;generalize aI s.es=kv at *;generalize aT s.bd=bv at *;generalize aT s.el=lv at *;generalize c.aU=o at *;simp[-ah,-aa,aY,iq,gi,ox,fy,Cv,Il,dU,q,m2,v1,v3,v4,au,an,ag,AV.view];rw[if_neg q];simp only;refine⟨c.V,[.int .i64 7,.str [],.str [],.int .i64 0,aI [y],.U,.U,.int .i64 s.a,.int .i64 0],⟨_,_,_,_,_,_,_,_,_,rfl,v1,rfl,rfl⟩,?_⟩;unfold TG TQ;rw[Sm.az s,hk,jO];generalize bD 11 (E.rows [y])=M at *;generalize aI [y]=yv at *;generalize aI s.es=kv at *;generalize aT s.bd=bv at *;generalize aT s.el=lv at *;generalize (c.fail s.a).aU=o2 at *;generalize c.aU=o at *;simp[-ah,-aa,aY,iq,gi,ox,fy,Cv,Il,dU,q,oy,m2,v1,v3,v4,au,an,ag,AV.view]
theorem WJ(c:CK)(s:Sm)(hf:c.fe=0)(hw:pV c)(dH:c.V.length+Sm.sz s<1000000000)(hk:s.k=7)(h:cJ c.sg.bP s.k s.es=true)(hh:c.sg.bP=false):qH pre c s:=by
 refine pF c s hf hw dH h T0 (by rw[hk];rfl) λys rL=>?_;have jR:tg c.H c.V s.k s.es=kN c.H c.V s.es:=if_neg (by omega);rw[jR]at rL;rw[hk]at h;obtain rfl:ys=[]:=by
  have h0:s.es=[]:=by rw[hh]at h;simpa [cJ] using h
  have:=nY rL;rw[h0]at this;exact List.eq_nil_of_length_eq_zero this
 have fy:=λaf=>gC (pre:=pre) af c [];rw[decide_eq_true hf]at fy;have eI:=λwl af st=>ot wl af st;have eT:=λwl af st=>l8 wl af st;have oy:=λaf=>jl (pre:=pre) af c s.a [];have eV:=λaf=>gO (pre:=pre) af c s.nm [] hw.s;have Cv:=λwl af bx=>wJ (pre:=pre) (wl:=wl) (af:=af) (c:=c) (r:=[]) (bx:=bx);have Il:=λwl af bx=>yy (pre:=pre) (wl:=wl) (af:=af) (c:=c) (r:=[]) (bx:=bx);obtain⟨e1,b1,l1⟩:=eG (s:=s);have b2:(aT s.bd).view=aT s.bd:=aO;have l2:(aT s.el).view=aT s.el:=aO;have m1:aD (bD 11 (E.rows []))=true:=bY;have m2:(bD 11 (E.rows [])).view=aI []:=rfl;have m3:aM (bD 11 (E.rows []))=[]:=rfl;have m4:bX 11 (bD 11 (E.rows []))=true:=by simp[E.rows,bL]
 have v1:aD (aI [])=true:=aR;have v2:(aI []).view=aI []:=aN;have v3:aM (aI [])=[]:=rfl;have v4:bX 11 (aI [])=true:=iM;have jO:c.aZ c.V=c:=rfl;have hp:(decide ((7:Int)=1\/(7:Int)=2))=false:=by decide
 have uv:¬((7:Int)=1\/(7:Int)=2):=by decide
 have k1:bH 7 s.on=[]:=rfl;have k2:bJ 7 s.od=0:=rfl;have hR:E2 c.H c.sg.bP c.sg.bz c.V s [] T0=.ok (.mk 7 [] [] 0 [] [] [] s.a 0,c.V):=by
  unfold E2 j6;simp[hk,cw,bH,bJ]
 rw[hh]at Cv;rw[hR,hk];rw[k1,k2,hp,if_neg uv,if_neg uv];simp only;unfold TG TQ;rw[mT,Sm.az s,hk,jO,pD];generalize bD 11 (E.rows [])=M at *;generalize aI []=yv at *;generalize aI s.es=kv at *;generalize aT s.bd=bv at *;generalize aT s.el=lv at *;generalize c.aU=o at *;simp[-ah,-aa,iq,gi,ox,fy,Cv,m2,v1,au,an,ag,AV.view]
theorem LW(c:CK)(s:Sm)(hf:c.fe=0)(hw:pV c)(dH:c.V.length+Sm.sz s<1000000000)(hk:s.k=7)(h:cJ c.sg.bP s.k s.es=true):qH pre c s:=by
 cases hh:c.sg.bP with
 |true=>exact WI c s hf hw dH hk h hh|false=>exact WJ c s hf hw dH hk h hh
theorem xL(af:Nat)(c:CK)(l:List Sm)(hf:c.fe≠0):(bh S).call 0 af 51 [.ptr pre.length 0 0 0,aT l] (pre++[c.aU])=some (.U,pre++[c.aU]):=by
 have cC:aD (aT l)=true:=bn;have dW:(aT l).view=aT l:=aO;have cP:aM (aT l)=Sm.rows l:=aE;have fy:=λaf=>gC (pre:=pre) af c [];rw[decide_eq_false hf]at fy;generalize aT l=lv at *;generalize c.aU=o at *;refine ay (sf:=Zs) rfl rfl rfl ?_;simp[-ah,-aa,Zs];rw[qA HD.eq_1];by_cases h:0<l.length;simp[-ah,-aa,cC,dW,cP,h,fy];simp[-ah,-aa,cC,dW,cP,h]
theorem LU(c:CK)(s:Sm)(hf:c.fe=0)(hw:pV c)(dH:c.V.length+Sm.sz s<1000000000)(hk:s.k=6)(h:cJ c.sg.bP s.k s.es=true)(y9:∀d:CK,d.H=c.H->d.sg=c.sg->d.fe=0->pV d->d.V.length+Sm.cR s.bd<1000000000->AL pre d s.bd):qH pre c s:=by
 refine pF c s hf hw dH h T0 (by rw[hk];rfl) λys rL=>?_;have jR:tg c.H c.V s.k s.es=kN c.H c.V s.es:=if_neg (by omega);rw[jR]at rL;rw[hk]at h;obtain⟨y,rfl⟩:=xR (by simpa [cJ] using h) rL;have fy:=λaf=>gC (pre:=pre) af c [];rw[decide_eq_true hf]at fy;have eI:=λwl af st=>ot wl af st;have eT:=λwl af st=>l8 wl af st;have oy:=λaf=>jl (pre:=pre) af c s.a [];have eV:=λaf=>gO (pre:=pre) af c s.nm [] hw.s;have Cv:=λwl af bx=>wJ (pre:=pre) (wl:=wl) (af:=af) (c:=c) (r:=[]) (bx:=bx);have Il:=λwl af bx=>yy (pre:=pre) (wl:=wl) (af:=af) (c:=c) (r:=[]) (bx:=bx);obtain⟨e1,b1,l1⟩:=eG (s:=s);have b2:(aT s.bd).view=aT s.bd:=aO;have l2:(aT s.el).view=aT s.el:=aO;have m1:aD (bD 11 (E.rows [y]))=true:=bY;have m2:(bD 11 (E.rows [y])).view=aI [y]:=rfl;have m3:aM (bD 11 (E.rows [y]))=[y.row]:=rfl;have m4:bX 11 (bD 11 (E.rows [y]))=true:=by simp[E.rows,bL,E.az]
 have v1:aD (aI [y])=true:=aR;have v2:(aI [y]).view=aI [y]:=aN;have v3:aM (aI [y])=[y.row]:=rfl;have v4:bX 11 (aI [y])=true:=iM;have jO:c.aZ c.V=c:=rfl;have hp:(decide ((6:Int)=1\/(6:Int)=2))=false:=by decide
 have uv:¬((6:Int)=1\/(6:Int)=2):=by decide
 have k1:bH 6 s.on=[]:=rfl;have k2:bJ 6 s.od=0:=rfl;have hR:E2 c.H c.sg.bP c.sg.bz c.V s [y] T0=if y.ty=tB then (match kj c.H c.sg.bP c.sg.bz c.V s.bd with
   |.error x=>.error x|.ok (b,W1)=>.ok (.mk 6 [] [] 0 [y] b [] s.a 0,W1)) else .error s.a:=by
  unfold E2 j6;simp only[hk];by_cases q:y.ty=tB;simp[qS,q,cw,bH,bJ]<;>rfl;simp[qS,q]
 have hz:=Sm.jM s;have hB:=y9 c rfl rfl hf hw (by omega);unfold AL at hB;rw[hR,hk];rw[k1,k2,hp,if_neg uv,if_neg uv];rw[E.az y]at m3 v3;by_cases q:y.ty=tB;rw[if_pos q];cases hb:kj c.H c.sg.bP c.sg.bz c.V s.bd with
 |error a=>
  rw[hb]at hB;simp only at hB ⊢;obtain⟨W,v,w1,hB⟩:=hB (pre.length+1);have w2:aD v.view=true:=by rw[jY];exact w1
  have w3:v.view.view=v.view:=oM v;refine⟨W,[.int .i64 6,.str [],.str [],.int .i64 0,aI [y],v.view,.U,.int .i64 s.a,.int .i64 0],⟨_,_,_,_,_,_,_,_,_,rfl,v1,w2,rfl⟩,?_⟩;unfold TG TQ;rw[Sm.az s,hk];generalize bD 11 (E.rows [y])=M at *;generalize aI [y]=yv at *;generalize aI s.es=kv at *;generalize aT s.bd=bv at *;generalize aT s.el=lv at *;generalize ((c.aZ W).fail a).aU=o2 at *;generalize c.aU=o at *;simp[-ah,-aa,aY,iq,gi,ox,fy,eT,q,hB,w1,w2,m2,v1,v3,v4,b2,au,an,ag,AV.view]
 |ok x=>
  obtain⟨b,W1⟩:=x;rw[hb]at hB;simp only at hB ⊢;unfold TG TQ;rw[mT,Sm.az s,hk,pD];have w1:aD (bD 9 (Sm.rows b))=true:=bY;have w2:(bD 9 (Sm.rows b)).view=aT b:=rfl;have w3:aD (aT b)=true:=bn;have w4:(aT b).view=aT b:=aO;generalize bD 9 (Sm.rows b)=BM at *;generalize aT b=BV at *;generalize bD 11 (E.rows [y])=M at *;generalize aI [y]=yv at *;generalize aI s.es=kv at *;generalize aT s.bd=bv at *;generalize aT s.el=lv at *;generalize (c.aZ W1).aU=o2 at *;generalize c.aU=o at *;simp[-ah,-aa,aY,iq,gi,ox,fy,eT,q,hB,w1,w2,w3,m2,v1,v3,v4,b2,au,an,ag,AV.view]
 rw[if_neg q];simp only;refine⟨c.V,[.int .i64 6,.str [],.str [],.int .i64 0,aI [y],.U,.U,.int .i64 s.a,.int .i64 0],⟨_,_,_,_,_,_,_,_,_,rfl,v1,rfl,rfl⟩,?_⟩;unfold TG TQ;rw[Sm.az s,hk,jO];generalize bD 11 (E.rows [y])=M at *;generalize aI [y]=yv at *;generalize aI s.es=kv at *;generalize aT s.bd=bv at *;generalize aT s.el=lv at *;generalize (c.fail s.a).aU=o2 at *;generalize c.aU=o at *;simp[-ah,-aa,aY,iq,gi,ox,fy,eT,dB,q,oy,m2,v1,v3,v4,au,an,ag,AV.view]
theorem LR(c:CK)(s:Sm)(hf:c.fe=0)(hw:pV c)(dH:c.V.length+Sm.sz s<1000000000)(hk:s.k=5)(h:cJ c.sg.bP s.k s.es=true)(y9:∀d:CK,d.H=c.H->d.sg=c.sg->d.fe=0->pV d->d.V.length+Sm.cR s.bd<1000000000->AL pre d s.bd)(Ta:∀d:CK,d.H=c.H->d.sg=c.sg->d.fe=0->pV d->d.V.length+Sm.cR s.el<1000000000->AL pre d s.el):qH pre c s:=by
 refine pF c s hf hw dH h T0 (by rw[hk];rfl) λys rL=>?_;have jR:tg c.H c.V s.k s.es=kN c.H c.V s.es:=if_neg (by omega);rw[jR]at rL;rw[hk]at h;obtain⟨y,rfl⟩:=xR (by simpa [cJ] using h) rL;have fy:=λaf=>gC (pre:=pre) af c [];rw[decide_eq_true hf]at fy;have eI:=λwl af st=>ot wl af st;have eT:=λwl af st=>l8 wl af st;have oy:=λaf=>jl (pre:=pre) af c s.a [];have eV:=λaf=>gO (pre:=pre) af c s.nm [] hw.s;have Cv:=λwl af bx=>wJ (pre:=pre) (wl:=wl) (af:=af) (c:=c) (r:=[]) (bx:=bx);have Il:=λwl af bx=>yy (pre:=pre) (wl:=wl) (af:=af) (c:=c) (r:=[]) (bx:=bx);obtain⟨e1,b1,l1⟩:=eG (s:=s);have b2:(aT s.bd).view=aT s.bd:=aO;have l2:(aT s.el).view=aT s.el:=aO;have m1:aD (bD 11 (E.rows [y]))=true:=bY;have m2:(bD 11 (E.rows [y])).view=aI [y]:=rfl;have m3:aM (bD 11 (E.rows [y]))=[y.row]:=rfl;have m4:bX 11 (bD 11 (E.rows [y]))=true:=by simp[E.rows,bL,E.az]
 have v1:aD (aI [y])=true:=aR;have v2:(aI [y]).view=aI [y]:=aN;have v3:aM (aI [y])=[y.row]:=rfl;have v4:bX 11 (aI [y])=true:=iM;have jO:c.aZ c.V=c:=rfl;have hp:(decide ((5:Int)=1\/(5:Int)=2))=false:=by decide
 have uv:¬((5:Int)=1\/(5:Int)=2):=by decide
 have k1:bH 5 s.on=[]:=rfl;have k2:bJ 5 s.od=0:=rfl;have hR:E2 c.H c.sg.bP c.sg.bz c.V s [y] T0=if y.ty=tB then (match kj c.H c.sg.bP c.sg.bz c.V s.bd with
   |.error x=>.error x|.ok (b,W1)=>match kj c.H c.sg.bP c.sg.bz W1 s.el with
    |.error x=>.error x|.ok (d,W2)=>.ok (.mk 5 [] [] 0 [y] b d s.a 0,W2)) else .error s.a:=by
  unfold E2 j6;simp only[hk];by_cases q:y.ty=tB;simp[qS,q,cw,bH,bJ]<;>rfl;simp[qS,q]
 have hz:=Sm.jM s;have hB:=y9 c rfl rfl hf hw (by omega);unfold AL at hB;rw[hR,hk];rw[k1,k2,hp,if_neg uv,if_neg uv];rw[E.az y]at m3 v3;by_cases q:y.ty=tB;rw[if_pos q];cases hb:kj c.H c.sg.bP c.sg.bz c.V s.bd with
 |error a=>
  rw[hb]at hB;simp only at hB ⊢;obtain⟨W,v,w1,hB⟩:=hB (pre.length+1);have w2:aD v.view=true:=by rw[jY];exact w1
  have w3:v.view.view=v.view:=oM v;have hF:=λaf=>xL (pre:=pre) af ((c.aZ W).fail a) s.el fV;refine⟨W,[.int .i64 5,.str [],.str [],.int .i64 0,aI [y],v.view,.U,.int .i64 s.a,.int .i64 0],⟨_,_,_,_,_,_,_,_,_,rfl,v1,w2,rfl⟩,?_⟩;unfold TG TQ;rw[Sm.az s,hk];generalize bD 11 (E.rows [y])=M at *;generalize aI [y]=yv at *;generalize aI s.es=kv at *;generalize aT s.bd=bv at *;generalize aT s.el=lv at *;generalize ((c.aZ W).fail a).aU=o2 at *;generalize c.aU=o at *;simp[-ah,-aa,aY,iq,gi,ox,fy,eT,q,hB,hF,w1,w2,m2,v1,v3,v4,b2,l2,au,an,ag,AV.view]
 |ok x=>
  obtain⟨b,W1⟩:=x;rw[hb]at hB;simp only at hB ⊢;obtain⟨g1,g2⟩:=Ly hw.V hb;have hL:=Ta (c.aZ W1) rfl rfl hf (xK hw g1 (by omega)) (by show W1.length+_<_;omega);unfold AL at hL;have Ct:kj (c.aZ W1).H (c.aZ W1).sg.bP (c.aZ W1).sg.bz (c.aZ W1).V s.el=kj c.H c.sg.bP c.sg.bz W1 s.el:=rfl;rw[Ct]at hL;have w1:aD (bD 9 (Sm.rows b))=true:=bY;have w2:(bD 9 (Sm.rows b)).view=aT b:=rfl;have w3:aD (aT b)=true:=bn;have w4:(aT b).view=aT b:=aO;cases hc:kj c.H c.sg.bP c.sg.bz W1 s.el with
  |error a=>
   rw[hc]at hL;simp only at hL ⊢;obtain⟨W,v,u1,hL⟩:=hL (pre.length+1);have u2:aD v.view=true:=(by rw[jY];exact u1);have u3:v.view.view=v.view:=oM v;have oz:(c.aZ W1).aZ W=c.aZ W:=rfl;rw[oz]at hL;refine⟨W,[.int .i64 5,.str [],.str [],.int .i64 0,aI [y],aT b,v.view,.int .i64 s.a,.int .i64 0],⟨_,_,_,_,_,_,_,_,_,rfl,v1,w3,u2⟩,?_⟩;unfold TG TQ;rw[Sm.az s,hk];generalize bD 9 (Sm.rows b)=BM at *;generalize aT b=BV at *;generalize bD 11 (E.rows [y])=M at *;generalize aI [y]=yv at *;generalize aI s.es=kv at *;generalize aT s.bd=bv at *;generalize aT s.el=lv at *;generalize (c.aZ W1).aU=o2 at *;generalize ((c.aZ W).fail a).aU=o3 at *;generalize c.aU=o at *;simp[-ah,-aa,aY,iq,gi,ox,fy,eT,q,hB,hL,w1,w2,w3,u1,u2,m2,v1,v3,v4,b2,l2,au,an,ag,AV.view]
  |ok x=>
   obtain⟨d,W2⟩:=x;rw[hc]at hL;simp only at hL ⊢;have oz:(c.aZ W1).aZ W2=c.aZ W2:=rfl;rw[oz]at hL;have u1:aD (bD 9 (Sm.rows d))=true:=bY;have u2:(bD 9 (Sm.rows d)).view=aT d:=rfl;have u3:aD (aT d)=true:=bn;have u4:(aT d).view=aT d:=aO;unfold TG TQ;rw[mT,Sm.az s,hk];generalize bD 9 (Sm.rows b)=BM at *;generalize aT b=BV at *;generalize bD 9 (Sm.rows d)=DM at *;generalize aT d=DV at *;generalize bD 11 (E.rows [y])=M at *;generalize aI [y]=yv at *;generalize aI s.es=kv at *;generalize aT s.bd=bv at *;generalize aT s.el=lv at *;generalize (c.aZ W1).aU=o2 at *;generalize (c.aZ W2).aU=o3 at *;generalize c.aU=o at *;simp[-ah,-aa,aY,iq,gi,ox,fy,eT,q,hB,hL,w1,w2,w3,u1,u2,u3,m2,v1,v3,v4,b2,l2,au,an,ag,AV.view]
 rw[if_neg q];simp only;refine⟨c.V,[.int .i64 5,.str [],.str [],.int .i64 0,aI [y],.U,.U,.int .i64 s.a,.int .i64 0],⟨_,_,_,_,_,_,_,_,_,rfl,v1,rfl,rfl⟩,?_⟩;unfold TG TQ;rw[Sm.az s,hk,jO];generalize bD 11 (E.rows [y])=M at *;generalize aI [y]=yv at *;generalize aI s.es=kv at *;generalize aT s.bd=bv at *;generalize aT s.el=lv at *;generalize (c.fail s.a).aU=o2 at *;generalize c.aU=o at *;simp[-ah,-aa,aY,iq,gi,ox,fy,eT,dB,q,oy,m2,v1,v3,v4,au,an,ag,AV.view]
end R9
namespace R9
open Ax Go bu V7 jG ke K9
variable {pre:aj}
theorem rU(c:CK)(s:Sm)(af:Nat)(g:Bool)(hn:c.V.length<1000000000){rs:List iE}{Q:Ex->St->Prop}{kk:List qy}(bs:List (List AV))(row:List AV)(cZ:row=s.row)
  (Gc:W S 0 af rs Q kk .normal ⟨[(0,.val (.ptr pre.length 0 0 0)),(3,.fp 0 0),(4,.fp 1 0),(5,.fp 2 0),(6,.fp 3 0),(7,.val (.bool true)),(11,.val (.bool (g&&(eJ s.nm 0 c.V).isNone)))],row::bs,pre++[c.aU]⟩) :
  W S 0 af rs Q (.code (.loop Ll)::.jF 3::kk) .normal ⟨[(0,.val (.ptr pre.length 0 0 0)),(3,.fp 0 0),(4,.fp 1 0),(5,.fp 2 0),(6,.fp 3 0),(7,.val (.bool true)),(11,.val (.bool g)),(15,.val (.int .i64 0))],row::bs,pre++[c.aU]⟩:=by
 subst cZ;rw[Sm.az]at *;have hzV:bX 4 (br c.V)=true:=qU;have Md:aD (br c.V)=true:=dL;have PO:aM (br c.V)=c.V.map Vd.row:=oX;have IB:=λwl af bx=>Am (pre:=pre) (wl:=wl) (af:=af) (c:=c) (r:=[]) (bx:=bx);generalize br c.V=VV at *;generalize c.aU=o at *;refine bf Ll.eq_1 (λx:Nat×Bool=>⟨[(0,.val (.ptr pre.length 0 0 0)),(3,.fp 0 0),(4,.fp 1 0),(5,.fp 2 0),(6,.fp 3 0),(7,.val (.bool true)),(11,.val (.bool x.2)),(15,.val (.int .i64 x.1))],[.int .i64 s.k,.str s.nm,.str s.on,.int .i64 s.od,aI s.es,aT s.bd,aT s.el,.int .i64 s.a,.int .i64 s.cH]::bs,pre++[o]⟩)
  (λx=>x.1<=c.V.length/\(g&&(eJ s.nm 0 c.V).isNone)=(x.2&&(eJ s.nm x.1 (c.V.drop x.1)).isNone)) (λx=>c.V.length-x.1) (0,g) rfl ⟨by simp,by simp⟩ ?_
 rintro⟨k,b⟩ ⟨hk,hp⟩ ih;simp only at hk hp ih;by_cases aX:k<c.V.length;have hw:=wk k (by omega);rw[tO aX]at hp;cases b with
 |false=>
  have dy:=ih (k+1,false) ⟨by simp only;omega,by rw[hp];rfl⟩ (by simp only;omega);simp[-ah,-aa,IB,Md,PO,aX,hw,au,an];exact dy
 |true=>
  by_cases e:c.V[k].nm=s.nm;rw[if_pos e]at hp;have dy:=ih (k+1,false) ⟨by simp only;omega,by rw[hp];rfl⟩ (by simp only;omega);simp[-ah,-aa,aY,IB,Md,hzV,PO,aX,hw,e,Vd.row,au,an];exact dy;rw[if_neg e]at hp;have dy:=ih (k+1,true) ⟨by simp only;omega,hp⟩ (by simp only;omega);simp[-ah,-aa,aY,IB,Md,hzV,PO,aX,hw,e,Vd.row,au,an];exact dy
 have eL:k=c.V.length:=by omega
 have:b=(g&&(eJ s.nm 0 c.V).isNone):=by rw[hp,eL,List.drop_length];simp[eJ]
 rw[<-this]at Gc;simp[-ah,-aa,IB,Md,PO,aX];exact Gc
theorem afo(c:CK)(s:List UInt8)(t:T3)(hn:c.V.length<1000000000):nI 4 40 (bD 4 (c.V.map Vd.row)) [[.str s,.int .i64 t.b,.int .i64 t.r,.int .i64 t.d]]=some (bD 4 ((c.V++[(⟨s,t⟩:Vd)]).map Vd.row)):=by
 have lJ:=dV (sz:=4) (bytes:=40) (r:=c.V.map Vd.row) (new:=[[.str s,.int .i64 t.b,.int .i64 t.r,.int .i64 t.d]]) (by simp[bL]) (by simp[cT];omega);have V1:c.V.map Vd.row++[[.str s,.int .i64 t.b,.int .i64 t.r,.int .i64 t.d]]=(c.V++[(⟨s,t⟩:Vd)]).map Vd.row:=by simp[Vd.row]
 rw[V1]at lJ;exact lJ
theorem LN(c:CK)(s:Sm)(hf:c.fe=0)(hw:pV c)(dH:c.V.length+Sm.sz s<1000000000)(hk:s.k=1)(h:cJ c.sg.bP s.k s.es=true):qH pre c s:=by
 cases ht:kT c.H s.k s.on s.od with
 |none=>
  have hz:=Sm.jM s;have E8:=E.dG s.es;unfold qH;rw[nq,if_pos h,ht];simp only;exact λaf=>⟨c.V,_,⟨_,_,_,_,_,_,_,_,_,rfl,rfl,rfl,rfl⟩,GN c s af hw.s (by omega) h ht⟩
 |some t=>
  refine pF c s hf hw dH h t ht λys rL=>?_;have jR:tg c.H c.V s.k s.es=kN c.H c.V s.es:=if_neg (by omega);rw[jR]at rL;rw[hk]at h;obtain rfl:ys=[]:=by
   have h0:s.es.length=0:=(by simpa [cJ] using h);have:=nY rL;exact List.eq_nil_of_length_eq_zero (by omega)
  have X8:=hw.s.V;have fy:=λaf=>gC (pre:=pre) af c [];rw[decide_eq_true hf]at fy;have oy:=λaf=>jl (pre:=pre) af c s.a [];have IB:=λwl af bx=>Am (pre:=pre) (wl:=wl) (af:=af) (c:=c) (r:=[]) (bx:=bx);have et:=λaf bx=>H8 (pre:=pre) (af:=af) (c:=c) (bx:=bx);have ep:=λaf bx=>Ns (pre:=pre) (af:=af) (c:=c) (w:=(bD 4 (c.V.map Vd.row)).di) (W:=c.V++[(⟨s.nm,t⟩:Vd)]) (bx:=bx);have lJ:=afo c s.nm t X8;obtain⟨e1,b1,l1⟩:=eG (s:=s);have m0:bD 11 (E.rows [])=.U:=rfl;have Md:aD (br c.V)=true:=dL;have PO:(aM (br c.V)).length=c.V.length:=by simp
  have jO:c.aZ c.V=c:=rfl;have hp:(decide ((1:Int)=1\/(1:Int)=2))=true:=by decide
  have uv:((1:Int)=1\/(1:Int)=2):=by decide
  have k1:bH 1 s.on=s.on:=rfl;have k2:bJ 1 s.od=s.od:=rfl;have HY:IntKind.i64.wrap (c.V.length:Int)=c.V.length:=by rw[ee]<;>omega
  have hR:E2 c.H c.sg.bP c.sg.bz c.V s [] t=match eJ s.nm 0 c.V with
    |some _=>.error s.a|none=>.ok (.mk 1 s.nm s.on s.od [] [] [] s.a c.V.length,c.V++[⟨s.nm,t⟩]):=by
   unfold E2 j6;simp only[hk];cases eJ s.nm 0 c.V<;>simp[cw,bH,bJ]
  rw[hR,hk];rw[k1,k2,hp,if_pos uv,if_pos uv,m0];cases hx:eJ s.nm 0 c.V with
  |some x=>
   simp only;refine⟨c.V,[.int .i64 1,.str [],.str s.on,.int .i64 s.od,.U,.U,.U,.int .i64 s.a,.int .i64 c.V.length],⟨_,_,_,_,_,_,_,_,_,rfl,rfl,rfl,rfl⟩,?_⟩;unfold TG TQ;have sG:=fun {Q:Ex->St->Prop} {rs:List iE} {kk:List qy} bs af=>rU (pre:=pre) c s af true X8 (rs:=rs) (Q:=Q) (kk:=kk) bs _ rfl;rw[hx]at sG;rw[Sm.az s,hk,jO]at *;generalize aI s.es=kv at *;generalize aT s.bd=bv at *;generalize aT s.el=lv at *;generalize (c.fail s.a).aU=o2 at *;generalize c.aU=o at *;simp[-ah,-aa,iq,gi,ox,fy,AV.view];refine sG _ _ ?_;simp[-ah,-aa,IB,Md,oy,ag,AV.view]
  |none=>
   simp only;unfold TG TQ;have sG:=fun {Q:Ex->St->Prop} {rs:List iE} {kk:List qy} bs af=>rU (pre:=pre) c s af true X8 (rs:=rs) (Q:=Q) (kk:=kk) bs _ rfl;rw[hx]at sG;have vV:({ c with V:=c.V++[(⟨s.nm,t⟩:Vd)] }:CK)=c.aZ (c.V++[⟨s.nm,t⟩]):=rfl;rw[vV]at ep;rw[mT,pD];rw[Sm.az s,hk]at *;have q1:aI []=.U:=rfl;rw[q1];generalize br c.V=FV at *;generalize (c.aZ (c.V++[⟨s.nm,t⟩])).aU=o2 at *;generalize bD 4 ((c.V++[(⟨s.nm,t⟩:Vd)]).map Vd.row)=M2 at *;generalize c.Ew (bD 4 (c.V.map Vd.row)).di=o3 at *;generalize bD 4 (c.V.map Vd.row)=M1 at *;generalize aI s.es=kv at *;generalize aT s.bd=bv at *;generalize aT s.el=lv at *;generalize c.aU=o at *;simp[-ah,-aa,iq,gi,ox,fy,AV.view];refine sG _ _ ?_;simp[-ah,-aa,IB,et,ep,lJ,Md,PO,au,an,ag,AV.view]
theorem LO(c:CK)(s:Sm)(hf:c.fe=0)(hw:pV c)(dH:c.V.length+Sm.sz s<1000000000)(hk:s.k=2)(h:cJ c.sg.bP s.k s.es=true):qH pre c s:=by
 cases ht:kT c.H s.k s.on s.od with
 |none=>
  have hz:=Sm.jM s;have E8:=E.dG s.es;unfold qH;rw[nq,if_pos h,ht];simp only;exact λaf=>⟨c.V,_,⟨_,_,_,_,_,_,_,_,_,rfl,rfl,rfl,rfl⟩,GN c s af hw.s (by omega) h ht⟩
 |some t=>
  refine pF c s hf hw dH h t ht λys rL=>?_;have jR:tg c.H c.V s.k s.es=kN c.H c.V s.es:=if_neg (by omega);rw[jR]at rL;rw[hk]at h;obtain⟨y,rfl⟩:=xR (by simpa [cJ] using h) rL;have m1:aD (bD 11 (E.rows [y]))=true:=bY;have m2:(bD 11 (E.rows [y])).view=aI [y]:=rfl;have m3:aM (bD 11 (E.rows [y]))=[y.row]:=rfl;have m4:bX 11 (bD 11 (E.rows [y]))=true:=by simp[E.rows,bL,E.az]
  have v1:aD (aI [y])=true:=aR;have v2:(aI [y]).view=aI [y]:=aN;have v3:aM (aI [y])=[y.row]:=rfl;have v4:bX 11 (aI [y])=true:=iM;rw[E.az y]at m3 v3;have X8:=hw.s.V;have fy:=λaf=>gC (pre:=pre) af c [];rw[decide_eq_true hf]at fy;have oy:=λaf=>jl (pre:=pre) af c s.a [];have IB:=λwl af bx=>Am (pre:=pre) (wl:=wl) (af:=af) (c:=c) (r:=[]) (bx:=bx);have et:=λaf bx=>H8 (pre:=pre) (af:=af) (c:=c) (bx:=bx);have ep:=λaf bx=>Ns (pre:=pre) (af:=af) (c:=c) (w:=(bD 4 (c.V.map Vd.row)).di) (W:=c.V++[(⟨s.nm,t⟩:Vd)]) (bx:=bx);have lJ:=afo c s.nm t X8;obtain⟨e1,b1,l1⟩:=eG (s:=s);have Md:aD (br c.V)=true:=dL;have PO:(aM (br c.V)).length=c.V.length:=by simp
  have jO:c.aZ c.V=c:=rfl;have hp:(decide ((2:Int)=1\/(2:Int)=2))=true:=by decide
  have uv:((2:Int)=1\/(2:Int)=2):=by decide
  have k1:bH 2 s.on=s.on:=rfl;have k2:bJ 2 s.od=s.od:=rfl;have HY:IntKind.i64.wrap (c.V.length:Int)=c.V.length:=by rw[ee]<;>omega
  have hR:E2 c.H c.sg.bP c.sg.bz c.V s [y] t=if y.ty=t then (match eJ s.nm 0 c.V with
    |some _=>.error s.a|none=>.ok (.mk 2 s.nm s.on s.od [y] [] [] s.a c.V.length,c.V++[⟨s.nm,t⟩])) else .error s.a:=by
   unfold E2 j6;simp only[hk];by_cases q:y.ty=t;cases eJ s.nm 0 c.V<;>simp[qS,q,cw,bH,bJ];simp[qS,q]
  rw[hR,hk];rw[k1,k2,hp,if_pos uv,if_pos uv];by_cases q:y.ty=t;rw[if_pos q];have q:(y.ty=t)=True:=eq_true q;cases hx:eJ s.nm 0 c.V with
  |some x=>
   simp only;refine⟨c.V,[.int .i64 2,.str [],.str s.on,.int .i64 s.od,aI [y],.U,.U,.int .i64 s.a,.int .i64 c.V.length],⟨_,_,_,_,_,_,_,_,_,rfl,v1,rfl,rfl⟩,?_⟩;unfold TG TQ;have sG:=fun {Q:Ex->St->Prop} {rs:List iE} {kk:List qy} bs af=>rU (pre:=pre) c s af true X8 (rs:=rs) (Q:=Q) (kk:=kk) bs _ rfl;rw[hx]at sG;rw[Sm.az s,hk,jO]at *;generalize bD 11 (E.rows [y])=M at *;generalize aI [y]=yv at *;generalize aI s.es=kv at *;generalize aT s.bd=bv at *;generalize aT s.el=lv at *;generalize (c.fail s.a).aU=o2 at *;generalize c.aU=o at *;simp[-ah,-aa,aY,iq,gi,ox,fy,m2,v3,v4,dU,q,au,an,AV.view];refine sG _ _ ?_;simp[-ah,-aa,IB,Md,oy,m2,v1,ag,AV.view]
  |none=>
   simp only;unfold TG TQ;have sG:=fun {Q:Ex->St->Prop} {rs:List iE} {kk:List qy} bs af=>rU (pre:=pre) c s af true X8 (rs:=rs) (Q:=Q) (kk:=kk) bs _ rfl;rw[hx]at sG;have vV:({ c with V:=c.V++[(⟨s.nm,t⟩:Vd)] }:CK)=c.aZ (c.V++[⟨s.nm,t⟩]):=rfl;rw[vV]at ep;rw[mT,pD];rw[Sm.az s,hk]at *;generalize br c.V=FV at *;generalize (c.aZ (c.V++[⟨s.nm,t⟩])).aU=o2 at *;generalize bD 4 ((c.V++[(⟨s.nm,t⟩:Vd)]).map Vd.row)=M2 at *;generalize c.Ew (bD 4 (c.V.map Vd.row)).di=o3 at *;generalize bD 4 (c.V.map Vd.row)=M1 at *;generalize bD 11 (E.rows [y])=M at *;generalize aI [y]=yv at *;generalize aI s.es=kv at *;generalize aT s.bd=bv at *;generalize aT s.el=lv at *;generalize c.aU=o at *;simp[-ah,-aa,aY,iq,gi,ox,fy,m2,v3,v4,dU,q,au,an,AV.view];refine sG _ _ ?_;simp[-ah,-aa,IB,et,ep,lJ,Md,PO,m2,v1,au,an,ag,AV.view]
  rw[if_neg q];simp only;refine⟨c.V,[.int .i64 2,.str [],.str s.on,.int .i64 s.od,aI [y],.U,.U,.int .i64 s.a,.int .i64 c.V.length],⟨_,_,_,_,_,_,_,_,_,rfl,v1,rfl,rfl⟩,?_⟩;unfold TG TQ;have sG:=fun {Q:Ex->St->Prop} {rs:List iE} {kk:List qy} bs af=>rU (pre:=pre) c s af false X8 (rs:=rs) (Q:=Q) (kk:=kk) bs _ rfl;rw[Bool.false_and]at sG;rw[Sm.az s,hk,jO]at *;generalize bD 11 (E.rows [y])=M at *;generalize aI [y]=yv at *;generalize aI s.es=kv at *;generalize aT s.bd=bv at *;generalize aT s.el=lv at *;generalize (c.fail s.a).aU=o2 at *;generalize c.aU=o at *;simp[-ah,-aa,aY,iq,gi,ox,fy,m2,v3,v4,dU,q,au,an,AV.view];refine sG _ _ ?_;simp[-ah,-aa,IB,Md,oy,m2,v1,ag,AV.view]
end R9
namespace R9
open Ax Go bu V7 jG ke K9
variable {pre:aj}
theorem fj(c:CK)(l:List Sm)(hf:c.fe=0)(hw:pV c)(dH:c.V.length+Sm.cR l<1000000000)
  (hl:∀s∈l,∀d:CK,d.H=c.H->d.sg=c.sg->d.fe=0->pV d->d.V.length+Sm.sz s<1000000000->qH pre d s):AL pre c l:=by
 unfold AL;have hz:bX 9 (aT l)=true:=Al;have cC:aD (aT l)=true:=bn;have dW:(aT l).view=aT l:=aO;have cP:aM (aT l)=Sm.rows l:=aE;have hlen:=Sm.dG l;have lJ:∀(ys:List Sm) (y:Sm),ys.length<1000000000->nI 9 136 (bD 9 (Sm.rows ys)) [y.row]=some (bD 9 (Sm.rows (ys++[y]))):=λys y h=>by
  rw[dV (by simp[bL,Sm.az]) (by simp[cT];omega)];simp[fY]
 have Bf:∀(ys:List (List AV)) (y:List AV),y.length=9->ys.length<1000000000->nI 9 136 (bD 9 ys) [y]=some (bD 9 (ys++[y])):=λys y h1 h=>by
  rw[dV (by simp[bL,h1]) (by simp[cT];omega)]
 cases hR:kj c.H c.sg.bP c.sg.bz c.V l with
 |ok x=>
  obtain⟨zs,X⟩:=x;intro af;refine ay (sf:=Zs) rfl rfl rfl ?_;generalize aT l=lv at *;simp[-ah,-aa,Zs];refine bf HD.eq_1 (λx:Nat×List Sm×List Vd×List AV=>⟨[(0,.val (.ptr pre.length 0 0 0)),(1,.val lv),(5,.val (bD 9 (Sm.rows x.2.1))),(6,.val (.int .i64 x.1))],[],pre++[(c.aZ x.2.2.1).aU]⟩)
   (λx=>x.1<=l.length/\x.2.1.length=x.1/\Ia x.2.1 (kj c.H c.sg.bP c.sg.bz x.2.2.1 (l.drop x.1))=.ok (zs,X)/\pV (c.aZ x.2.2.1)/\x.2.2.1.length+Sm.cR (l.drop x.1)<1000000000) (λx=>l.length-x.1) (0,[],c.V,[]) rfl ⟨by simp,rfl,by simp[Ia,hR],hw,by simpa using dH⟩ ?_
  rintro⟨k,ys,V,b⟩ ⟨hk,hy,hp,hW,We⟩ ih;simp only at hk hy hp hW We ih;by_cases aX:k<l.length;have mI:=wk k (by omega);rw[Aq l k aX]at We;have hv:=hl l[k] (List.getElem_mem aX) (c.aZ V) rfl rfl hf hW (by show V.length+_<_;omega);unfold qH at hv;have Ct:xW (c.aZ V).H (c.aZ V).sg.bP (c.aZ V).sg.bz (c.aZ V).V l[k]=xW c.H c.sg.bP c.sg.bz V l[k]:=rfl;rw[Ct]at hv;rw[GB aX]at hp;have gE:=wN aX;have m9:=λh2=>qJ aX h2;have fy:=λaf=>gC (pre:=pre) af (c.aZ V) [];rw[decide_eq_true (show (c.aZ V).fe=0 from hf)]at fy;cases hx:xW c.H c.sg.bP c.sg.bz V l[k] with
  |error a=>rw[hx]at hp;cases hp|ok x=>
   obtain⟨y,W⟩:=x;rw[hx]at hp hv;simp only at hp hv;obtain⟨w1,w2⟩:=Eh l[k] V y W hW.V hx;have ap:=lJ ys y (by omega);have dy:=λb=>ih (k+1,ys++[y],W,b) ⟨by simp only;omega,by simp[hy],hp,xK (W:=W) hw w1 (by omega),by show W.length+Sm.cR (l.drop (k+1))<1000000000;omega⟩ (by simp only;omega);simp only at dy;have oz:(c.aZ V).aZ W=c.aZ W:=rfl;rw[oz]at hv;generalize (c.aZ V).aU=o1 at *;generalize (c.aZ W).aU=o2 at *;generalize bD 9 (Sm.rows (ys++[y]))=R at *;rw[Sm.az l[k]]at hv gE;simp only[Sm.az l[k]]at m9;rw[Sm.az y]at hv ap;generalize l[k]=x at *;simp[-ah,-aa,aY,aX,mI,cC,dW,hz,cP,m9,fy,hv,ap,AV.view];exact dy []
  have eL:k=l.length:=by omega
  have hh:ys=zs/\V=X:=by
   rw[eL,List.drop_length]at hp;simpa [kj,Ia] using hp
  obtain⟨h1,h2⟩:=hh;subst h1 h2;simp[-ah,-aa,cC,dW,cP,aX]
 |error a=>
  intro af;obtain⟨v,bV,h1,W,h2,h3⟩:∃v bV,(bh S).call 0 af 51 [.ptr pre.length 0 0 0,aT l] (pre++[c.aU])=some (v,bV)/\∃W,aD v=true/\bV=pre++[((c.aZ W).fail a).aU]:=by
   refine iT (sf:=Zs) rfl rfl rfl ?_;generalize aT l=lv at *;simp[-ah,-aa,Zs];refine bf HD.eq_1 (λx:Nat×List (List AV)×List Vd×CK×List AV=>⟨[(0,.val (.ptr pre.length 0 0 0)),(1,.val lv),(5,.val (bD 9 x.2.1)),(6,.val (.int .i64 x.1))],[],pre++[x.2.2.2.1.aU]⟩)
    (λx=>x.1<=l.length/\x.2.1.length=x.1/\(x.2.2.2.1=c.aZ x.2.2.1/\kj c.H c.sg.bP c.sg.bz x.2.2.1 (l.drop x.1)=.error a/\pV (c.aZ x.2.2.1)/\x.2.2.1.length+Sm.cR (l.drop x.1)<1000000000\/x.2.2.2.1=(c.aZ x.2.2.1).fail a))
    (λx=>l.length-x.1) (0,[],c.V,c,[]) rfl ⟨by simp,rfl,.inl ⟨rfl,by simpa using hR,hw,by simpa using dH⟩⟩ ?_
   rintro⟨k,ys,V,d,b⟩ ⟨hk,hy,hp⟩ ih;simp only at hk hy hp ih;by_cases aX:k<l.length;have mI:=wk k (by omega);have gE:=wN aX;have m9:=λh2=>qJ aX h2;rcases hp with⟨hd,hp,hW,We⟩|hd;subst hd;rw[Aq l k aX]at We;have hv:=hl l[k] (List.getElem_mem aX) (c.aZ V) rfl rfl hf hW (by show V.length+_<_;omega);unfold qH at hv;have Ct:xW (c.aZ V).H (c.aZ V).sg.bP (c.aZ V).sg.bz (c.aZ V).V l[k]=xW c.H c.sg.bP c.sg.bz V l[k]:=rfl;rw[Ct]at hv;rw[ED aX]at hp;have fy:=λaf=>gC (pre:=pre) af (c.aZ V) [];rw[decide_eq_true (show (c.aZ V).fe=0 from hf)]at fy;cases hx:xW c.H c.sg.bP c.sg.bz V l[k] with
   |error a'=>
    rw[hx]at hp hv;simp only at hp hv;cases hp;obtain⟨W,row,⟨rk,rnm,ron,rod,bz,rbd,rel,ra,LZ,rfl,q1,q2,q3⟩,hv⟩:=hv (pre.length+1);have oz:(c.aZ V).aZ W=c.aZ W:=rfl;rw[oz]at hv;have ap:=Bf ys [.int .i64 rk,.str rnm,.str ron,.int .i64 rod,bz.view,rbd.view,rel.view,.int .i64 ra,.int .i64 LZ] rfl (by omega);have dy:=λb=>ih (k+1,ys++[[.int .i64 rk,.str rnm,.str ron,.int .i64 rod,bz.view,rbd.view,rel.view,.int .i64 ra,.int .i64 LZ]],W,(c.aZ W).fail a,b) ⟨by simp only;omega,by simp[hy],.inr rfl⟩ (by simp only;omega);simp only at dy;generalize (c.aZ V).aU=o1 at *;generalize ((c.aZ W).fail a).aU=o2 at *;generalize bD 9 (ys++[[.int .i64 rk,.str rnm,.str ron,.int .i64 rod,bz.view,rbd.view,rel.view,.int .i64 ra,.int .i64 LZ]])=R at *;rw[Sm.az l[k]]at hv gE;simp only[Sm.az l[k]]at m9;generalize l[k]=x at *;simp[-ah,-aa,aY,aX,mI,cC,dW,hz,cP,m9,fy,hv,ap,q1,q2,q3,AV.view];exact dy []
   |ok x=>
    obtain⟨y,W⟩:=x;rw[hx]at hp hv;simp only at hp hv;obtain⟨w1,w2⟩:=Eh l[k] V y W hW.V hx;have YH:kj c.H c.sg.bP c.sg.bz W (l.drop (k+1))=.error a:=by
     split at hp;rename_i h;cases hp;exact h;cases hp
    have ap:=Bf ys y.row (by rw[Sm.az];rfl) (by omega);have dy:=λb=>ih (k+1,ys++[y.row],W,c.aZ W,b) ⟨by simp only;omega,by simp[hy],.inl ⟨rfl,YH,xK (W:=W) hw w1 (by omega),by show W.length+Sm.cR (l.drop (k+1))<1000000000;omega⟩⟩ (by simp only;omega);simp only at dy;have oz:(c.aZ V).aZ W=c.aZ W:=rfl;rw[oz]at hv;generalize (c.aZ V).aU=o1 at *;generalize (c.aZ W).aU=o2 at *;generalize bD 9 (ys++[y.row])=R at *;rw[Sm.az l[k]]at hv gE;simp only[Sm.az l[k]]at m9;rw[Sm.az y]at hv ap;generalize l[k]=x at *;simp[-ah,-aa,aY,aX,mI,cC,dW,hz,cP,m9,fy,hv,ap,AV.view];exact dy []
   subst hd;have gr:=λaf=>gC (pre:=pre) af ((c.aZ V).fail a) [];rw[decide_eq_false fV]at gr;simp only[Sm.az l[k]]at m9;rw[Sm.az l[k]]at gE;have hex:∃W,((c.aZ V).fail a).aU=((c.aZ W).fail a).aU:=⟨V,rfl⟩;generalize ((c.aZ V).fail a).aU=o2 at *;generalize l[k]=x at *;simp[-ah,-aa,aX,cC,dW,cP,gr,hex,AV.view];have eL:k=l.length:=(by omega);rcases hp with⟨hd,hp,_⟩|hd;rw[eL,List.drop_length]at hp;simp[kj]at hp;subst hd;have hex:∃W,((c.aZ V).fail a).aU=((c.aZ W).fail a).aU:=⟨V,rfl⟩;generalize ((c.aZ V).fail a).aU=o2 at *;simp[-ah,-aa,cC,dW,cP,aX,hex]
  rw[h3]at h1;exact⟨W,v,h2,h1⟩
theorem oc(s:Sm):∀c:CK,c.fe=0->pV c->c.V.length+Sm.sz s<1000000000->qH pre c s:=by
 induction s using Sm.yx with
 |_ s sY k8=>
  intro c hf hw dH;have hz:=Sm.jM s;have E8:=E.dG s.es;cases h:cJ c.sg.bP s.k s.es with
  |false=>
   unfold qH;rw[nq,h];exact λaf=>⟨c.V,_,⟨_,_,_,_,_,_,_,_,_,rfl,rfl,rfl,rfl⟩,Pn c s af (by omega) h⟩
  |true=>
   have y9:∀d:CK,d.H=c.H->d.sg=c.sg->d.fe=0->pV d->d.V.length+Sm.cR s.bd<1000000000->AL pre d s.bd:=λd _ _ h1 h2 h3=>
    fj d s.bd h1 h2 h3 λx hx e _ _ g1 g2 g3=>sY x hx e g1 g2 g3
   have Ta:∀d:CK,d.H=c.H->d.sg=c.sg->d.fe=0->pV d->d.V.length+Sm.cR s.el<1000000000->AL pre d s.el:=λd _ _ h1 h2 h3=>
    fj d s.el h1 h2 h3 λx hx e _ _ g1 g2 g3=>k8 x hx e g1 g2 g3
   rcases Nv h with k|k|k|k|k|k|k|k|k;exact LN c s hf hw dH k h;exact LO c s hf hw dH k h;exact LP c s hf hw dH k h;exact LQ c s hf hw dH k h;exact LR c s hf hw dH k h y9 Ta;exact LU c s hf hw dH k h y9;exact LW c s hf hw dH k h;exact LX c s hf hw dH k h;exact LY c s hf hw dH k h
theorem Bg(c:CK)(l:List Sm)(hf:c.fe=0)(hw:pV c)(dH:c.V.length+Sm.cR l<1000000000):AL pre c l:=
 fj c l hf hw dH λs _ d _ _ h1 h2 h3=>oc s d h1 h2 h3
end R9
namespace R9
open Ax Go bu V7 jG ke K9
variable {pre:aj}
theorem L0{wl af:Nat}{c:CK}{bx:bF}:aW wl af (.load true 2 false) [.val (.ptr pre.length 0 0 12)] (pre++[c.aU]) bx=some (.val (.agg [.int .i64 c.fe,.int .i64 c.fa]),pre++[c.aU],bx):=by
 simp[CK.aU,cut,AV.view]
theorem aaY{af:Nat}{c:CK}{W:List Vd}{bx:bF}:aW 0 af (.store 1) [.val (.ptr pre.length 0 0 11),.val (bD 4 (W.map Vd.row))] (pre++[c.aU]) bx=some (.none,pre++[(c.aZ W).aU],bx):=by
 simp[CK.aU,CK.aZ,aQ,AV.ai,ag]
def Bo(p:Pg)(g:Sg):CK:=⟨aG p,fW p,g,[],0,0⟩
theorem afp{wl af:Nat}{p:Pg}{g:Sg}{st:aj}{bx:bF}:aW wl af (.box 14) [.val (.agg [aA 2 ((aG p).bK.map dx),br (aG p).globals,aA 6 ((aG p).sigs.map Sg.row),.int .i64 (fW p),bD 1 (ga (aG p).rs),.str g.nm,br g.ps,.bool g.bP,.int .i64 g.bz.b,.int .i64 g.bz.r,.int .i64 g.bz.d,.U,.int .i64 0,.int .i64 0])] st bx =
  some (.val (.ptr st.length 0 0 0),st++[(Bo p g).aU],bx):=by
 have h:(Bo p g).aU=.rows 0 14 [[aA 2 ((aG p).bK.map dx),br (aG p).globals,aA 6 ((aG p).sigs.map Sg.row),.int .i64 (fW p),bD 1 (ga (aG p).rs),.str g.nm,br g.ps,.bool g.bP,.int .i64 g.bz.b,.int .i64 g.bz.r,.int .i64 g.bz.d,.U,.int .i64 0,.int .i64 0]]:=by
  simp[CK.aU,Bo,jB]
 rw[h];simp
open N7 U7 in
theorem wP(wl af:Nat)(p:Pg)(st:aj)(hg:(iY p).ok)(pg:GD.sm (iY p))(dH:∀f∈p.funcs,f.params.length+Sm.cR f.body<1000000000) :
  (bh S).call wl af 24 [.agg p.row] st=some (mJ p,st):=by
 have em:∀wl af st,(bh S).call wl af 49 [.agg p.row] st=some (y7 (iY p),st):=λwl af st=>Tz wl af (iY p) st hg pg;have OW:p.aS.length<1000000000:=by have:=pg.aS;rw[og,List.length_map]at this;exact this
 have Gf:p.funcs.length<1000000000:=by have:=pg.funcs;rw[mZ,List.length_map]at this;exact this
 have enm:∀wl af st,(bh S).call wl af 50 [.agg p.row] st=some (bD 1 (K9.ga (aG p).rs),st):=λwl af st=>by
  have:=Kg wl af (iY p) st hg pg.aS;rw[Ar]at this;exact this
 refine bN (sf:=s24) rfl rfl (by simp[Pg.row,AV.ai,AV.ax]) rfl (B3 p) ?_;unfold mJ;unfold y7 at em;cases hF:iS (iY p) with
 |some a=>
  rw[hF]at em;simp only[qm,fE,fX,Pg.row]at em ⊢;simp[-ah,-aa,s24,em,ag,AV.view,au,an]
 |none=>
  rw[hF,J4]at em;simp only[fE,fX,Pg.row,jS]at em enm ⊢;have t1:aD (aA 2 ((aG p).bK.map dx))=true:=aL;have t2:(aA 2 ((aG p).bK.map dx)).view=aA 2 ((aG p).bK.map dx):=aJ;have t3:aD (aA 6 ((aG p).sigs.map Sg.row))=true:=aL;have t4:(aA 6 ((aG p).sigs.map Sg.row)).view=aA 6 ((aG p).sigs.map Sg.row):=aJ;have t5:bX 6 (aA 6 ((aG p).sigs.map Sg.row))=true:=gf (by simp[bL,Sg.row]);have t6:aM (aA 6 ((aG p).sigs.map Sg.row))=(aG p).sigs.map Sg.row:=aE;have r1:aD (aA 3 (p.aS.map Rc.row))=true:=aL;have r2:(aA 3 (p.aS.map Rc.row)).view=aA 3 (p.aS.map Rc.row):=aJ;have f1:aD (aA 7 (p.funcs.map Fc.row))=true:=aL;have f2:(aA 7 (p.funcs.map Fc.row)).view=aA 7 (p.funcs.map Fc.row):=aJ;have f3:bX 7 (aA 7 (p.funcs.map Fc.row))=true:=gf (by simp[bL,Fc.row]);have f4:aM (aA 7 (p.funcs.map Fc.row))=p.funcs.map Fc.row:=aE;have g1:aD (aA 4 (p.globals.map PD.cells))=true:=aL;have g2:(aA 4 (p.globals.map PD.cells)).view=aA 4 (p.globals.map PD.cells):=aJ;have gl1:aD (br (aG p).globals)=true:=dL;have gl2:(br (aG p).globals).view=br (aG p).globals:=fC;have nm1:aD (bD 1 (K9.ga (aG p).rs))=true:=bY;have WK:=λwl af g st bx=>afp (wl:=wl) (af:=af) (p:=p) (g:=g) (st:=st) (bx:=bx);have cC:(aG p).sigs.length=p.funcs.length:=by simp[aG]
  have Wh:∀g:Sg,g∈(aG p).sigs->pV ((Bo p g).aZ g.ps):=λg x9=>by
   have Gc:=J5 p;have Qb:(cx p).length=p.aS.length:=(by simp[cx]);have Kr:(aG p).globals.length<1000000000:=(by have:=pg.globals;rw[Et]at this;simpa [aG,kS] using this);have hF:∀s∈(aG p).bK,s.2.length<1000000000:=λs hs=>by
    obtain⟨r,hr,rfl⟩:=List.mem_map.1 hs;have:=pg.cQ (Fx r) (by rw[og];exact List.mem_map_of_mem hr);simpa [Fx,oe,kS] using this
   have hP:∀s∈(aG p).sigs,s.ps.length<1000000000:=λs hs=>by
    obtain⟨r,hr,rfl⟩:=List.mem_map.1 hs;have:=pg.params (Cs r) (by rw[mZ];exact List.mem_map_of_mem hr);simpa [Cs,oe,wD,kS] using this
   refine⟨⟨hP g x9,Kr,?_,?_,hF,hP⟩,Gc,(Gc.sigs g x9).2⟩;show (aG p).sigs.length<_;rw[cC];exact Gf;show (cx p).length<_;rw[Qb];exact OW
  generalize hHS:aA 2 ((aG p).bK.map dx)=HS at *;generalize hHG:aA 6 ((aG p).sigs.map Sg.row)=HG at *;generalize hGL:br (aG p).globals=GL at *;generalize aA 3 (p.aS.map Rc.row)=PR at *;generalize aA 7 (p.funcs.map Fc.row)=PF at *;generalize aA 4 (p.globals.map PD.cells)=PG at *;generalize bD 1 (K9.ga (aG p).rs)=NM at *;simp[-ah,-aa,s24,em,t1,t2,t3,t4,r1,r2,f1,f2,g1,g2,gl1,gl2,ag,AV.view];refine bf Rk.eq_1 (λx:Nat×List Bd×aj=>⟨[(1,.fp 0 0),(2,.fp 1 0),(3,.fp 2 0),(4,.fp 3 0),(6,.fp 5 0),(7,.val (.int .i64 x.1))],
    [[PR,PG,PF],[.U,.U,.U,.int .i64 0,.U],[.int .i64 0,.int .i64 0],[HS,GL,HG,.int .i64 (fW p)],[.int .i64 0,.int .i64 0],[HS,GL,HG,.int .i64 (fW p),bD 3 (x.2.1.map Bd.row)]],x.2.2⟩)
    (λx=>x.1<=p.funcs.length/\x.2.1.length=x.1/\Ic x.2.1 (qk (aG p) ((aG p).sigs.drop x.1) (p.funcs.drop x.1))=qk (aG p) (aG p).sigs p.funcs)
    (λx=>p.funcs.length-x.1) (0,[],[]) (by simp[jB]) ⟨by simp,rfl,by simp[Ic];split<;>rename_i h<;>exact h.symm⟩ ?_
  rintro⟨k,bs,B5⟩ ⟨hk,Yr,hp⟩ ih;simp only at hk Yr hp ih;by_cases qd:k<p.funcs.length;have nk:k<(aG p).sigs.length:=by omega
  have mI:=wk k (by omega);have gF':∀h:k<(p.funcs.map Fc.row).length,(p.funcs.map Fc.row)[k]=[.str p.funcs[k].name,aA 4 (p.funcs[k].params.map PD.cells),.bool p.funcs[k].bP,.str p.funcs[k].on,.int .i64 p.funcs[k].od,aT p.funcs[k].body,.int .i64 p.funcs[k].a]:=λh=>by simp[Fc.row]
  have yz:∀h:k<((aG p).sigs.map Sg.row).length,((aG p).sigs.map Sg.row)[k]=[.str (aG p).sigs[k].nm,br (aG p).sigs[k].ps,.bool (aG p).sigs[k].bP,.int .i64 (aG p).sigs[k].bz.b,.int .i64 (aG p).sigs[k].bz.r,.int .i64 (aG p).sigs[k].bz.d]:=λh=>by simp[Sg.row]
  rw[J6 nk qd]at hp;have QA:(aG p).sigs[k].ps.length=p.funcs[k].params.length:=by simp[aG,wD,kS]
  have XT:=List.getElem_mem nk;have hB:=Bg (pre:=B5) ((Bo p (aG p).sigs[k]).aZ (aG p).sigs[k].ps) p.funcs[k].body rfl (Wh _ XT) (by
   have:=dH _ (List.getElem_mem qd);show (aG p).sigs[k].ps.length+_<_;rw[QA];exact this)
  unfold AL at hB;have Ct:kj ((Bo p (aG p).sigs[k]).aZ (aG p).sigs[k].ps).H ((Bo p (aG p).sigs[k]).aZ (aG p).sigs[k].ps).sg.bP ((Bo p (aG p).sigs[k]).aZ (aG p).sigs[k].ps).sg.bz ((Bo p (aG p).sigs[k]).aZ (aG p).sigs[k].ps).V p.funcs[k].body=kj (aG p) (aG p).sigs[k].bP (aG p).sigs[k].bz (aG p).sigs[k].ps p.funcs[k].body:=rfl;rw[Ct]at hB;have lJ:∀cs:List AV,cs.length=3->nI 3 56 (bD 3 (bs.map Bd.row)) [cs]=some (bD 3 (bs.map Bd.row++[cs])):=λcs hc=>dV (by simp[bL,hc]) (by simp[cT];omega);have Pw:(aG p).sigs[k].ps.length<1000000000:=(Wh _ XT).s.V;have Cb:nI 4 40 .U ((aG p).sigs[k].ps.map Vd.row)=some (bD 4 ((aG p).sigs[k].ps.map Vd.row)):=by
   have:=dV (sz:=4) (bytes:=40) (r:=[]) (new:=(aG p).sigs[k].ps.map Vd.row) (by simp[bL,Vd.row]) (by simp[cT];omega);exact this
  have ep:=λaf bx=>aaY (pre:=B5) (af:=af) (c:=Bo p (aG p).sigs[k]) (W:=(aG p).sigs[k].ps) (bx:=bx);have WK:=λwl af bx=>WK wl af (aG p).sigs[k] B5 bx;have bd1:aD (aT p.funcs[k].body)=true:=bn;have bd2:(aT p.funcs[k].body).view=aT p.funcs[k].body:=aO;have ps1:aD (aA 4 (p.funcs[k].params.map PD.cells))=true:=aL;have ps2:(aA 4 (p.funcs[k].params.map PD.cells)).view=aA 4 (p.funcs[k].params.map PD.cells):=aJ;have sp1:aD (br (aG p).sigs[k].ps)=true:=dL;have sp2:(br (aG p).sigs[k].ps).view=br (aG p).sigs[k].ps:=fC;have sp3:aM (br (aG p).sigs[k].ps)=(aG p).sigs[k].ps.map Vd.row:=oX;have oz:∀W,((Bo p (aG p).sigs[k]).aZ (aG p).sigs[k].ps).aZ W=(Bo p (aG p).sigs[k]).aZ W:=λ_=>rfl;have m1:aD (bD 4 ((aG p).sigs[k].ps.map Vd.row))=true:=bY;generalize O4:(aG p).sigs.map Sg.row=RS at *;generalize hrF:p.funcs.map Fc.row=RF at *;have EF:k<RS.length:=by rw[<-O4,List.length_map];exact nk
  have L1:k<RF.length:=by rw[<-hrF,List.length_map];exact qd
  have EG:=yz EF;have Tc:=gF' L1;clear yz gF';cases hR:kj (aG p) (aG p).sigs[k].bP (aG p).sigs[k].bz (aG p).sigs[k].ps p.funcs[k].body with
  |error a=>
   rw[hR]at hp hB;simp only at hp hB;obtain⟨W,v,w1,hB2⟩:=hB 0;rw[oz]at hB2;clear hB;have gr:=λaf=>gC (pre:=B5) af (((Bo p (aG p).sigs[k]).aZ W).fail a) [];rw[decide_eq_false fV]at gr;have hcf:=λwl af bx=>L0 (pre:=B5) (wl:=wl) (af:=af) (c:=((Bo p (aG p).sigs[k]).aZ W).fail a) (bx:=bx);have xZ:(((Bo p (aG p).sigs[k]).aZ W).fail a).fe=3/\(((Bo p (aG p).sigs[k]).aZ W).fail a).fa=a:=⟨rfl,rfl⟩;rw[xZ.1,xZ.2]at hcf;rw[<-hp];simp only[uQ];have w2:aD v.view=true:=(by rw[jY];exact w1);have w3:v.view.view=v.view:=oM v;generalize (((Bo p (aG p).sigs[k]).aZ W).fail a).aU=o3 at *;generalize ((Bo p (aG p).sigs[k]).aZ (aG p).sigs[k].ps).aU=o2 at *;generalize (Bo p (aG p).sigs[k]).aU=o1 at *;generalize bD 4 ((aG p).sigs[k].ps.map Vd.row)=M4 at *;generalize aT p.funcs[k].body=PB at *;generalize aA 4 (p.funcs[k].params.map PD.cells)=PP at *;generalize br (aG p).sigs[k].ps=SP at *;generalize p.funcs[k]=fk at *;generalize (aG p).sigs[k]=gk at *;simp[-ah,-aa,aY,enm,WK,ep,Cb,hB2,gr,hcf,f1,f2,f3,f4,t2,t4,t5,t6,gl2,r2,g2,nm1,Tc,EG,EF,L1,bd2,sp1,sp2,sp3,au,an,ag,AV.view]
  |ok x=>
   obtain⟨cc,W⟩:=x;rw[hR]at hp hB;simp only at hp hB;have hB2:=λaf=>hB af;clear hB;simp only[oz]at hB2;have fy:=λaf=>gC (pre:=B5) af ((Bo p (aG p).sigs[k]).aZ W) [];rw[decide_eq_true (show ((Bo p (aG p).sigs[k]).aZ W).fe=0 from rfl)]at fy;have IB:=λwl af bx=>Am (pre:=B5) (wl:=wl) (af:=af) (c:=(Bo p (aG p).sigs[k]).aZ W) (r:=[]) (bx:=bx);have hvW:((Bo p (aG p).sigs[k]).aZ W).V=W:=rfl;rw[hvW]at IB;have dy:=ih (k+1,bs++[⟨W,cc,p.funcs[k].a⟩],B5++[((Bo p (aG p).sigs[k]).aZ W).aU]) ⟨by simp only;omega,by simp[Yr],hp⟩ (by simp only;omega);simp only[List.map_append,List.map_cons,List.map_nil,Bd.row]at dy;have w1:aD (br W)=true:=dL;have w2:(br W).view=br W:=fC;have ap:=lJ [br W,aT cc,.int .i64 p.funcs[k].a] rfl;have c1:aD (bD 9 (Sm.rows cc))=true:=bY;have c2:(bD 9 (Sm.rows cc)).view=aT cc:=rfl;have c5:aD (aT cc)=true:=bn;have c6:(aT cc).view=aT cc:=aO;have n1:aD (bD 3 (bs.map Bd.row++[[br W,aT cc,.int .i64 p.funcs[k].a]]))=true:=bY;generalize br W=FW at *;generalize bD 9 (Sm.rows cc)=MC at *;generalize aT cc=SC at *;generalize ((Bo p (aG p).sigs[k]).aZ W).aU=o3 at *;generalize ((Bo p (aG p).sigs[k]).aZ (aG p).sigs[k].ps).aU=o2 at *;generalize (Bo p (aG p).sigs[k]).aU=o1 at *;generalize bD 4 ((aG p).sigs[k].ps.map Vd.row)=M4 at *;generalize aT p.funcs[k].body=PB at *;generalize aA 4 (p.funcs[k].params.map PD.cells)=PP at *;generalize br (aG p).sigs[k].ps=SP at *;generalize bD 3 (bs.map Bd.row++[[FW,SC,.int .i64 p.funcs[k].a]])=BN at *;generalize bD 3 (bs.map Bd.row)=BL at *;generalize p.funcs[k]=fk at *;generalize (aG p).sigs[k]=gk at *;simp[-ah,-aa,aY,mI,enm,WK,ep,Cb,hB2,fy,IB,ap,f1,f2,f3,f4,t2,t4,t5,t6,gl2,r2,g2,nm1,Tc,EG,EF,L1,bd2,sp1,sp2,sp3,w1,w2,c1,c2,c5,n1,au,an,ag,AV.view];exact dy
  have eL:k=p.funcs.length:=by omega
  have hR:qk (aG p) (aG p).sigs p.funcs=.ok bs:=by
   rw[<-hp,eL,List.drop_length,<-cC,List.drop_length];simp[qk,Ic]
  rw[hR];have n1:aD (bD 3 (bs.map Bd.row))=true:=bY;have n2:(bD 3 (bs.map Bd.row)).view=aA 3 (bs.map Bd.row):=rfl;have n4:aD (aA 3 (bs.map Bd.row))=true:=aL;simp only[uQ,jS];rw[hHS,hHG,hGL];generalize bD 3 (bs.map Bd.row)=BL at *;generalize aA 3 (bs.map Bd.row)=BV at *;simp[-ah,-aa,qd,f1,f2,f4,t1,t2,t3,t4,gl1,gl2,n2,n4,ag,AV.view]
end R9
