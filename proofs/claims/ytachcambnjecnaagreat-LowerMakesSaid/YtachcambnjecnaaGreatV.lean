/- Part of a proof. -/
import Derived.Test.YtachcambnjecnaaGreatT

set_option maxRecDepth 100000
set_option maxHeartbeats 8000000
namespace R9
open Ax Go bu V7 jG j9 K9
variable {pre:aj}
theorem eF{s:Sm}:aD (aI s.es)=true/\aD (aS s.bd)=true/\aD (aS s.el)=true:=⟨aQ,bn,bn⟩
theorem Pf(c:CK)(s:Sm)(af:Nat)(hn:s.es.length<1000000000)(h:cI c.sg.bO s.k s.es=false) :
  (bh S).call 0 af 90 [.ptr pre.length 0 0 0,.agg s.row] (pre++[c.aT])=some (.agg [.int .i64 s.k,.str [],.str [],.int .i64 0,.U,.U,.U,.int .i64 s.a,.int .i64 0],pre++[(c.fail s.a).aT]):=by
 have Ph:=λaf=>xO (pre:=pre) af c s [] hn;have oy:=λaf=>jl (pre:=pre) af c s.a [];rw[h]at Ph;obtain⟨e1,b1,l1⟩:=eF (s:=s);have e2:(aI s.es).view=aI s.es:=aN;have b2:(aS s.bd).view=aS s.bd:=aO;have l2:(aS s.el).view=aS s.el:=aO;rw[Sm.az]at *;generalize aI s.es=kv at *;generalize aS s.bd=bv at *;generalize aS s.el=lv at *;generalize (c.fail s.a).aT=o2 at *;generalize c.aT=o at *;refine ay (sf:=ox) rfl rfl rfl ?_;simp[-ah,-aa,ox,Ph,oy,e1,b1,l1,e2,b2,l2,ag,AV.view]
theorem GH(c:CK)(s:Sm)(af:Nat)(hs:oh c)(hn:s.es.length<1000000000)(h:cI c.sg.bO s.k s.es=true)(ht:kS c.H s.k s.on s.od=none) :
  (bh S).call 0 af 90 [.ptr pre.length 0 0 0,.agg s.row] (pre++[c.aT])=some (.agg [.int .i64 s.k,.str [],.str [],.int .i64 0,.U,.U,.U,.int .i64 s.a,.int .i64 0],pre++[(c.fail s.a).aT]):=by
 have Ph:=λaf=>xO (pre:=pre) af c s [] hn;have oy:=λaf=>jl (pre:=pre) af c s.a [];rw[h]at Ph;obtain⟨e1,b1,l1⟩:=eF (s:=s);have e2:(aI s.es).view=aI s.es:=aN;have b2:(aS s.bd).view=aS s.bd:=aO;have l2:(aS s.el).view=aS s.el:=aO;have pQ:=λwl af st=>Ie wl af c.H.rs s.on s.od st hs.R;have Kf:=λwl af bx=>uL (pre:=pre) (wl:=wl) (af:=af) (c:=c) (r:=[]) (bx:=bx);rw[Sm.az]at *;generalize aI s.es=kv at *;generalize aS s.bd=bv at *;generalize aS s.el=lv at *;generalize (c.fail s.a).aT=o2 at *;generalize c.aT=o at *;unfold kS at ht;by_cases h1:s.k=1;rw[if_pos (.inl h1)]at ht;have h2:(bZ c.H.rs s.on s.od).2=false:=by
  cases hh:(bZ c.H.rs s.on s.od).2 with
  |false=>rfl|true=>rw[hh]at ht;cases ht
 unfold LA at pQ;rw[h2]at pQ;refine ay (sf:=ox) rfl rfl rfl ?_;have h1:(s.k=1)=True:=eq_true h1;simp[-ah,-aa,ox,Ph,oy,h1,Kf,pQ,e1,b1,l1,e2,b2,l2,aU,bG,ag,AV.view];by_cases h2:s.k=2;rw[if_pos (.inr h2)]at ht;have h3:(bZ c.H.rs s.on s.od).2=false:=by
  cases hh:(bZ c.H.rs s.on s.od).2 with
  |false=>rfl|true=>rw[hh]at ht;cases ht
 unfold LA at pQ;rw[h3]at pQ;refine ay (sf:=ox) rfl rfl rfl ?_;have h2:(s.k=2)=True:=eq_true h2;simp[-ah,-aa,ox,Ph,oy,h1,h2,Kf,pQ,e1,b1,l1,e2,b2,l2,aU,bG,ag,AV.view];rw[if_neg (by omega)]at ht;cases ht
def iq:bw:=gi (gi (gi (gi (gi (gi (gi ox.body))))))
theorem Pj(c:CK)(s:Sm)(af:Nat)(t:T3)(hs:oh c)(hn:s.es.length<1000000000)(h:cI c.sg.bO s.k s.es=true)(hk:s.k=1\/s.k=2)(ht:kS c.H s.k s.on s.od=some t){Q:Ex->St->Prop}
  (go:W S 0 (pre.length+1) ox.results Q [.code (.loop rC),.jF 0,.code iq] .normal
   ⟨[(0,.val (.ptr pre.length 0 0 0)),(3,.fp 0 0),(4,.fp 1 0),(5,.fp 2 0),(6,.fp 3 0),(7,.val (.bool true)),(10,.val (.int .i64 0))],[s.row,Z9,[.int .i64 s.k,.str [],.str s.on,.int .i64 s.od,.U,.U,.U,.int .i64 s.a,.int .i64 0],t.cells,t.cells,[]],pre++[c.aT]⟩) :
  W S (ox.mode.u7 (pre++[c.aT]).length 0) (ox.mode.oB (pre++[c.aT]).length af) ox.results Q [.code ox.body] .normal (pF ox [.ptr pre.length 0 0 0,.agg s.row] (pre++[c.aT])):=by
 have Ph:=λaf=>xO (pre:=pre) af c s [] hn;rw[h]at Ph;obtain⟨e1,b1,l1⟩:=eF (s:=s);have e2:(aI s.es).view=aI s.es:=aN;have b2:(aS s.bd).view=aS s.bd:=aO;have l2:(aS s.el).view=aS s.el:=aO;have pQ:=λwl af st=>Ie wl af c.H.rs s.on s.od st hs.R;have Kf:=λwl af bx=>uL (pre:=pre) (wl:=wl) (af:=af) (c:=c) (r:=[]) (bx:=bx);rw[Sm.az]at *;generalize aI s.es=kv at *;generalize aS s.bd=bv at *;generalize aS s.el=lv at *;generalize c.aT=o at *;unfold kS at ht;rw[if_pos hk]at ht;split at ht;rename_i h2;cases ht;unfold LA at pQ;rw[h2]at pQ;generalize (bZ c.H.rs s.on s.od).1=t at *;rcases hk with h1|h1;have h1:(s.k=1)=True:=eq_true h1;simp[-ah,-aa,ox,Ph,h1,Kf,pQ,e1,b1,l1,e2,b2,l2,aU,bG,ag,AV.view];exact go;have h0:¬s.k=1:=by omega
 have h1:(s.k=2)=True:=eq_true h1;simp[-ah,-aa,ox,Ph,h0,h1,Kf,pQ,e1,b1,l1,e2,b2,l2,aU,bG,ag,AV.view];exact go;cases ht
theorem GI(c:CK)(s:Sm)(af:Nat)(hn:s.es.length<1000000000)(h:cI c.sg.bO s.k s.es=true)(hk:¬(s.k=1\/s.k=2)){Q:Ex->St->Prop}
  (go:W S 0 (pre.length+1) ox.results Q [.code (.loop rC),.jF 0,.code iq] .normal
   ⟨[(0,.val (.ptr pre.length 0 0 0)),(3,.fp 0 0),(4,.fp 1 0),(5,.fp 2 0),(6,.fp 3 0),(7,.val (.bool false)),(10,.val (.int .i64 0))],[s.row,Z9,[.int .i64 s.k,.str [],.str [],.int .i64 0,.U,.U,.U,.int .i64 s.a,.int .i64 0],T0.cells,[],[]],pre++[c.aT]⟩) :
  W S (ox.mode.u7 (pre++[c.aT]).length 0) (ox.mode.oB (pre++[c.aT]).length af) ox.results Q [.code ox.body] .normal (pF ox [.ptr pre.length 0 0 0,.agg s.row] (pre++[c.aT])):=by
 have Ph:=λaf=>xO (pre:=pre) af c s [] hn;rw[h]at Ph;obtain⟨e1,b1,l1⟩:=eF (s:=s);have e2:(aI s.es).view=aI s.es:=aN;have b2:(aS s.bd).view=aS s.bd:=aO;have l2:(aS s.el).view=aS s.el:=aO;rw[Sm.az]at *;generalize aI s.es=kv at *;generalize aS s.bd=bv at *;generalize aS s.el=lv at *;generalize c.aT=o at *;have h1:¬s.k=1:=λe=>hk (.inl e);have h2:¬s.k=2:=λe=>hk (.inr e);simp[-ah,-aa,ox,Ph,h1,h2,e1,b1,l1,e2,b2,l2,ag,AV.view];exact go
end R9
namespace R9
open Ax Go bu V7 jG j9 K9
variable {pre:aj}
def EW(H:Hd)(bO:Bool)(bz:T3)(V:List Vd)(s:Sm)(ys:List E)(t:T3):Except Int (Sm×List Vd):=match j6 H bz V s.k s.nm ys t with
 |none=>.error s.a|some (r,W)=>if s.k=5 then
   match ki H bO bz W s.bd with
   |.error x=>.error x|.ok (b,W1)=>match ki H bO bz W1 s.el with
    |.error x=>.error x|.ok (c,W2)=>.ok (.mk s.k (cv s.k s.nm) (bH s.k s.on) (bJ s.k s.od) ys b c s.a r,W2)
  else if s.k=6 then
   match ki H bO bz W s.bd with
   |.error x=>.error x|.ok (b,W1)=>.ok (.mk s.k (cv s.k s.nm) (bH s.k s.on) (bJ s.k s.od) ys b [] s.a r,W1)
  else .ok (.mk s.k (cv s.k s.nm) (bH s.k s.on) (bJ s.k s.od) ys [] [] s.a r,W)
def TQ(pre:aj)(Q:Ex->St->Prop)(s:Sm)(ev:AV)(o:dy)(dc:Bool)(Mb:List UInt8)(Ma:Int)(b3 b4:List AV):Prop:=
 W S 0 (pre.length+1) ox.results Q [.code iq] .normal
  ⟨[(0,.val (.ptr pre.length 0 0 0)),(3,.fp 0 0),(4,.fp 1 0),(5,.fp 2 0),(6,.fp 3 0),(7,.val (.bool dc))],[s.row,Z9,[.int .i64 s.k,.str [],.str Mb,.int .i64 Ma,ev,.U,.U,.int .i64 s.a,.int .i64 0],b3,b4,[]],pre++[o]⟩
def TG(pre:aj)(c:CK)(s:Sm)(ev:AV)(o:dy)(dc:Bool)(Mb:List UInt8)(Ma:Int)(b3 b4:List AV)(v:AV)(st:aj):Prop:=TQ pre (zM ox.results .kg (pre++[c.aT]) (v,st)) s ev o dc Mb Ma b3 b4
theorem Mc(c:CK)(s:Sm)(a:Int)(ev:AV)(dc:Bool)(Mb:List UInt8)(Ma:Int)(b3 b4:List AV)(hv:aD ev=true) :
  TG pre c s ev (c.fail a).aT dc Mb Ma b3 b4 (.agg [.int .i64 s.k,.str [],.str Mb,.int .i64 Ma,ev.view,.U,.U,.int .i64 s.a,.int .i64 0]) (pre++[(c.fail a).aT]):=by
 unfold TG TQ;have xX:=fV (c:=c) (a:=a);have gr:=λaf=>gz (pre:=pre) af (c.fail a) [];rw[decide_eq_false xX]at gr;generalize (c.fail a).aT=o2 at *;have Wn:aD ev.view=true:=by rw[jY];exact hv
 have hv3:ev.view.view=ev.view:=oK ev;generalize s.row=row at *;simp[-ah,-aa,iq,gi,ox,gr,Wn,ag,AV.view]
theorem pD(c:CK)(s:Sm)(hf:c.fe=0)(hw:pS c)(dF:c.V.length+Sm.sz s<1000000000)(h:cI c.sg.bO s.k s.es=true)(t:T3)(ht:kS c.H s.k s.on s.od=some t)
  (rest:∀ys,td c.H c.V s.k s.es=.ok ys->match EW c.H c.sg.bO c.sg.bz c.V s ys t with
   |.ok (y,W)=>TG pre c s (bD 11 (E.rows ys)) c.aT (decide (s.k=1\/s.k=2)) (bH s.k s.on) (bJ s.k s.od) (if s.k=1\/s.k=2 then t.cells else T0.cells) (if s.k=1\/s.k=2 then t.cells else []) (.agg y.row) (pre++[(c.aZ W).aT])|.error a=>∃W row,Ev row/\TG pre c s (bD 11 (E.rows ys)) c.aT (decide (s.k=1\/s.k=2)) (bH s.k s.on) (bJ s.k s.od) (if s.k=1\/s.k=2 then t.cells else T0.cells) (if s.k=1\/s.k=2 then t.cells else []) (.agg row) (pre++[((c.aZ W).fail a).aT])):qE pre c s:=by
 have hz:=Sm.jM s;have E4:=E.dD s.es;have jR:∀x∈s.es,JW pre c x:=λx hx=>eP c hf hw x (by have:=E.iA hx;omega);have jO:c.aZ c.V=c:=rfl;have ajU:xU c.H c.sg.bO c.sg.bz c.V s=match td c.H c.V s.k s.es with
   |.error x=>.error x|.ok ys=>EW c.H c.sg.bO c.sg.bz c.V s ys t:=by rw[nk,if_pos h,ht];rfl
 unfold qE;rw[ajU];have key:∀af (Q:Ex->St->Prop),(∀ys,td c.H c.V s.k s.es=.ok ys->TQ pre Q s (bD 11 (E.rows ys)) c.aT (decide (s.k=1\/s.k=2)) (bH s.k s.on) (bJ s.k s.od) (if s.k=1\/s.k=2 then t.cells else T0.cells) (if s.k=1\/s.k=2 then t.cells else []))->
   (∀a ev,aD ev=true->td c.H c.V s.k s.es=.error a->TQ pre Q s ev (c.fail a).aT (decide (s.k=1\/s.k=2)) (bH s.k s.on) (bJ s.k s.od) (if s.k=1\/s.k=2 then t.cells else T0.cells) (if s.k=1\/s.k=2 then t.cells else []))->
   W S (ox.mode.u7 (pre++[c.aT]).length 0) (ox.mode.oB (pre++[c.aT]).length af) ox.results Q [.code ox.body] .normal (pF ox [.ptr pre.length 0 0 0,.agg s.row] (pre++[c.aT])):=by
  intro af Q g1 g2;unfold TQ at g1 g2;by_cases hk:s.k=1\/s.k=2;have h9:s.k≠9:=by omega
  have he9:td c.H c.V s.k s.es=kM c.H c.V s.es:=if_neg h9;have k1:bH s.k s.on=s.on:=if_pos hk;have k2:bJ s.k s.od=s.od:=if_pos hk;simp only[if_pos hk,decide_eq_true hk,k1,k2,he9]at g1 g2;exact Pj c s af t hw.s (by omega) h hk ht (NC c s hf (by omega) h9 jR _ _ _ _ _ _ _ _ _ _ _ _ _ rfl g1 g2);have k1:bH s.k s.on=[]:=if_neg hk;have k2:bJ s.k s.od=0:=if_neg hk;simp only[if_neg hk,decide_eq_false hk,k1,k2]at g1 g2;by_cases h9:s.k=9;obtain⟨e,hee⟩:∃e,s.es=[e]:=by
   rw[h9]at h;unfold cI at h;rw[if_neg (by decide),if_neg (by decide),if_neg (by decide),if_pos rfl]at h;match hh:s.es,h with
   |[e],_=>exact⟨e,rfl⟩
  have he9:td c.H c.V s.k s.es=match xC c.H c.V e with
    |.error x=>.error x|.ok y=>.ok [y]:=by unfold td;rw[if_pos h9,hee];rfl
  rw[he9]at g1 g2;exact GI c s af (by omega) h hk (WA c s e hf h9 hee (jR e (by rw[hee];exact List.mem_cons_self)) _ _ _ _ _ _ _ _ _ _ _ _ _ rfl
   (λy hy=>g1 [y] (by rw[hy])) (λa ev YG hy=>g2 a ev YG (by rw[hy])))
  have he9:td c.H c.V s.k s.es=kM c.H c.V s.es:=if_neg h9;rw[he9]at g1 g2;exact GI c s af (by omega) h hk (NC c s hf (by omega) h9 jR _ _ _ _ _ _ _ _ _ _ _ _ _ rfl g1 g2)
 cases hv:td c.H c.V s.k s.es with
 |error a=>
  simp only;intro af;obtain⟨v,bV,h1,row,h2,h3,h4⟩:∃v bV,(bh S).call 0 af 90 [.ptr pre.length 0 0 0,.agg s.row] (pre++[c.aT])=some (v,bV)/\∃row,Ev row/\v=.agg row/\bV=pre++[(c.fail a).aT]:=by
   refine iT (sf:=ox) rfl rfl rfl (key af _ (λys hz=>by rw[hv]at hz;cases hz) λa' ev YG hz=>?_);rw[hv]at hz;cases hz;have hT:=Mc (pre:=pre) c s a ev (decide (s.k=1\/s.k=2)) (bH s.k s.on) (bJ s.k s.od) (if s.k=1\/s.k=2 then t.cells else T0.cells) (if s.k=1\/s.k=2 then t.cells else []) YG;unfold TG TQ at hT;unfold TQ;obtain⟨x',s',g1,g2⟩:=hT;exact⟨x',s',g1,_,g2,_,⟨_,_,_,_,_,_,_,_,_,rfl,by rw[jY];exact YG,rfl,rfl⟩,rfl,rfl⟩
  subst h3 h4;exact⟨c.V,row,h2,h1⟩
 |ok ys=>
  simp only;have rest:=rest ys hv;cases hR:EW c.H c.sg.bO c.sg.bz c.V s ys t with
  |ok x=>
   obtain⟨y,W⟩:=x;rw[hR]at rest;simp only at rest ⊢;intro af;exact ay (sf:=ox) rfl rfl rfl (key af _ (λzs hz=>by rw[hv]at hz;cases hz;exact rest) λa ev _ hz=>by rw[hv]at hz;cases hz)
  |error a=>
   rw[hR]at rest;simp only at rest ⊢;intro af;obtain⟨W,row,hb,rest⟩:=rest;exact⟨W,row,hb,ay (sf:=ox) rfl rfl rfl (key af _ (λzs hz=>by rw[hv]at hz;cases hz;exact rest) λa ev _ hz=>by rw[hv]at hz;cases hz)⟩
end R9
namespace R9
open Ax Go bu V7 jG j9 K9
variable {pre:aj}
theorem xP{es ys:List E}{H:Hd}{V:List Vd}(h:es.length=1)(hv:kM H V es=.ok ys):∃y,ys=[y]:=by
 have:=nY hv;match ys,this with
 |[y],_=>exact⟨y,rfl⟩|[],h'=>simp at h';omega|_::_::_,h'=>simp at h';omega
theorem WB{es ys:List E}{H:Hd}{V:List Vd}(h:es.length=2)(hv:kM H V es=.ok ys):∃y z,ys=[y,z]:=by
 have:=nY hv;match ys,this with
 |[y,z],_=>exact⟨y,z,rfl⟩|[],h'=>simp at h';omega|[_],h'=>simp at h';omega|_::_::_::_,h'=>simp at h';omega
theorem mS(k:Int)(nm on:List UInt8)(od:Int)(es:List E)(bd el:List Sm)(a cG:Int):(Sm.mk k nm on od es bd el a cG).row=[.int .i64 k,.str nm,.str on,.int .i64 od,aI es,aS bd,aS el,.int .i64 a,.int .i64 cG]:=Sm.az _
theorem pA:aS []=.U:=rfl
theorem LP(c:CK)(s:Sm)(hf:c.fe=0)(hw:pS c)(dF:c.V.length+Sm.sz s<1000000000)(hk:s.k=8)(h:cI c.sg.bO s.k s.es=true):qE pre c s:=by
 refine pD c s hf hw dF h T0 (by rw[hk];rfl) λys rK=>?_;have jR:td c.H c.V s.k s.es=kM c.H c.V s.es:=if_neg (by omega);rw[jR]at rK;rw[hk]at h;obtain⟨y,rfl⟩:=xP (by simpa [cI] using h) rK;have fy:=λaf=>gz (pre:=pre) af c [];rw[decide_eq_true hf]at fy;have eI:=λwl af st=>ot wl af st;have eT:=λwl af st=>l8 wl af st;have oy:=λaf=>jl (pre:=pre) af c s.a [];have eV:=λaf=>gK (pre:=pre) af c s.nm [] hw.s;have Cs:=λwl af bx=>wH (pre:=pre) (wl:=wl) (af:=af) (c:=c) (r:=[]) (bx:=bx);have Ih:=λwl af bx=>yw (pre:=pre) (wl:=wl) (af:=af) (c:=c) (r:=[]) (bx:=bx);obtain⟨e1,b1,l1⟩:=eF (s:=s);have b2:(aS s.bd).view=aS s.bd:=aO;have l2:(aS s.el).view=aS s.el:=aO;have m1:aD (bD 11 (E.rows [y]))=true:=bY;have m2:(bD 11 (E.rows [y])).view=aI [y]:=rfl;have m3:aM (bD 11 (E.rows [y]))=[y.row]:=rfl;have m4:bX 11 (bD 11 (E.rows [y]))=true:=by simp[E.rows,bN,E.az]
 have v1:aD (aI [y])=true:=aQ;have v2:(aI [y]).view=aI [y]:=aN;have v3:aM (aI [y])=[y.row]:=rfl;have v4:bX 11 (aI [y])=true:=iM;have jO:c.aZ c.V=c:=rfl;have hp:(decide ((8:Int)=1\/(8:Int)=2))=false:=by decide
 have ur:¬((8:Int)=1\/(8:Int)=2):=by decide
 have k1:bH 8 s.on=[]:=rfl;have k2:bJ 8 s.od=0:=rfl;have hR:EW c.H c.sg.bO c.sg.bz c.V s [y] T0=if y.ty=tI then .ok (.mk 8 [] [] 0 [y] [] [] s.a 0,c.V) else .error s.a:=by
  unfold EW j6;simp only[hk];by_cases q:y.ty=tI;simp[qP,q,cv,bH,bJ];simp[qP,q]
 rw[hR,hk];rw[k1,k2,hp,if_neg ur,if_neg ur];rw[E.az y]at m3 v3;by_cases q:y.ty=tI;rw[if_pos q];simp only;unfold TG TQ;rw[mS,Sm.az s,hk,jO,pA];generalize bD 11 (E.rows [y])=M at *;generalize aI [y]=yv at *;generalize aI s.es=kv at *;generalize aS s.bd=bv at *;generalize aS s.el=lv at *;generalize c.aT=o at *;simp[-ah,-aa,aX,iq,gi,ox,fy,eI,q,m2,v1,v3,v4,au,an,ag,AV.view];rw[if_neg q];simp only;refine⟨c.V,[.int .i64 8,.str [],.str [],.int .i64 0,aI [y],.U,.U,.int .i64 s.a,.int .i64 0],⟨_,_,_,_,_,_,_,_,_,rfl,v1,rfl,rfl⟩,?_⟩;unfold TG TQ;rw[Sm.az s,hk,jO];generalize bD 11 (E.rows [y])=M at *;generalize aI [y]=yv at *;generalize aI s.es=kv at *;generalize aS s.bd=bv at *;generalize aS s.el=lv at *;generalize (c.fail s.a).aT=o2 at *;generalize c.aT=o at *;simp[-ah,-aa,aX,iq,gi,ox,fy,eI,K9.dI,q,oy,m2,v1,v3,v4,au,an,ag,AV.view]
theorem LJ(c:CK)(s:Sm)(hf:c.fe=0)(hw:pS c)(dF:c.V.length+Sm.sz s<1000000000)(hk:s.k=4)(h:cI c.sg.bO s.k s.es=true):qE pre c s:=by
 refine pD c s hf hw dF h T0 (by rw[hk];rfl) λys rK=>?_;have jR:td c.H c.V s.k s.es=kM c.H c.V s.es:=if_neg (by omega);rw[jR]at rK;rw[hk]at h;obtain⟨y,z,rfl⟩:=WB (by
  unfold cI at h;rw[if_neg (by decide),if_pos rfl]at h;match hh:s.es,h with
  |[_,_],_=>rfl) rK
 have fy:=λaf=>gz (pre:=pre) af c [];rw[decide_eq_true hf]at fy;have eI:=λwl af st=>ot wl af st;have eT:=λwl af st=>l8 wl af st;have oy:=λaf=>jl (pre:=pre) af c s.a [];have eV:=λaf=>gK (pre:=pre) af c s.nm [] hw.s;have Cs:=λwl af bx=>wH (pre:=pre) (wl:=wl) (af:=af) (c:=c) (r:=[]) (bx:=bx);have Ih:=λwl af bx=>yw (pre:=pre) (wl:=wl) (af:=af) (c:=c) (r:=[]) (bx:=bx);obtain⟨e1,b1,l1⟩:=eF (s:=s);have b2:(aS s.bd).view=aS s.bd:=aO;have l2:(aS s.el).view=aS s.el:=aO;have m1:aD (bD 11 (E.rows [y,z]))=true:=bY;have m2:(bD 11 (E.rows [y,z])).view=aI [y,z]:=rfl;have m3:aM (bD 11 (E.rows [y,z]))=[y.row,z.row]:=rfl;have m4:bX 11 (bD 11 (E.rows [y,z]))=true:=by simp[E.rows,bN,E.az]
 have v1:aD (aI [y,z])=true:=aQ;have v2:(aI [y,z]).view=aI [y,z]:=aN;have v3:aM (aI [y,z])=[y.row,z.row]:=rfl;have v4:bX 11 (aI [y,z])=true:=iM;have jO:c.aZ c.V=c:=rfl;have hp:(decide ((4:Int)=1\/(4:Int)=2))=false:=by decide
 have ur:¬((4:Int)=1\/(4:Int)=2):=by decide
 have k1:bH 4 s.on=[]:=rfl;have k2:bJ 4 s.od=0:=rfl;have hR:EW c.H c.sg.bO c.sg.bz c.V s [y,z] T0=if y.ty=z.ty then .ok (.mk 4 [] [] 0 [y,z] [] [] s.a 0,c.V) else .error s.a:=by
  unfold EW j6;simp only[hk];by_cases q:y.ty=z.ty;simp[qP,BY,q,cv,bH,bJ];simp[qP,BY,q]
 rw[hR,hk];rw[k1,k2,hp,if_neg ur,if_neg ur];rw[E.az y,E.az z]at m3 v3;by_cases q:y.ty=z.ty;rw[if_pos q];have q:(y.ty=z.ty)=True:=eq_true q;simp only;unfold TG TQ;rw[mS,Sm.az s,hk,jO,pA];generalize bD 11 (E.rows [y,z])=M at *;generalize aI [y,z]=yv at *;generalize aI s.es=kv at *;generalize aS s.bd=bv at *;generalize aS s.el=lv at *;generalize c.aT=o at *;simp[-ah,-aa,aX,iq,gi,ox,fy,dU,q,m2,v1,v3,v4,au,an,ag,AV.view];rw[if_neg q];simp only;refine⟨c.V,[.int .i64 4,.str [],.str [],.int .i64 0,aI [y,z],.U,.U,.int .i64 s.a,.int .i64 0],⟨_,_,_,_,_,_,_,_,_,rfl,v1,rfl,rfl⟩,?_⟩;unfold TG TQ;rw[Sm.az s,hk,jO];generalize bD 11 (E.rows [y,z])=M at *;generalize aI [y,z]=yv at *;generalize aI s.es=kv at *;generalize aS s.bd=bv at *;generalize aS s.el=lv at *;generalize (c.fail s.a).aT=o2 at *;generalize c.aT=o at *;simp[-ah,-aa,aX,iq,gi,ox,fy,dU,q,oy,m2,v1,v3,v4,au,an,ag,AV.view]
theorem LQ(c:CK)(s:Sm)(hf:c.fe=0)(hw:pS c)(dF:c.V.length+Sm.sz s<1000000000)(hk:s.k=9)(h:cI c.sg.bO s.k s.es=true):qE pre c s:=by
 refine pD c s hf hw dF h T0 (by rw[hk];rfl) λys rK=>?_;obtain⟨y,rfl⟩:∃y,ys=[y]:=by
  unfold td at rK;rw[hk]at rK h;unfold cI at h;rw[if_neg (by decide),if_neg (by decide),if_neg (by decide),if_pos rfl]at h;rw[if_pos rfl]at rK;match hh:s.es,h with
  |[e],_=>
   rw[hh]at rK;simp only at rK;cases hx:xC c.H c.V e with
   |error a=>rw[hx]at rK;cases rK|ok y=>rw[hx]at rK;cases rK;exact⟨y,rfl⟩
 have fy:=λaf=>gz (pre:=pre) af c [];rw[decide_eq_true hf]at fy;have eI:=λwl af st=>ot wl af st;have eT:=λwl af st=>l8 wl af st;have oy:=λaf=>jl (pre:=pre) af c s.a [];have eV:=λaf=>gK (pre:=pre) af c s.nm [] hw.s;have Cs:=λwl af bx=>wH (pre:=pre) (wl:=wl) (af:=af) (c:=c) (r:=[]) (bx:=bx);have Ih:=λwl af bx=>yw (pre:=pre) (wl:=wl) (af:=af) (c:=c) (r:=[]) (bx:=bx);obtain⟨e1,b1,l1⟩:=eF (s:=s);have b2:(aS s.bd).view=aS s.bd:=aO;have l2:(aS s.el).view=aS s.el:=aO;have m1:aD (bD 11 (E.rows [y]))=true:=bY;have m2:(bD 11 (E.rows [y])).view=aI [y]:=rfl;have m3:aM (bD 11 (E.rows [y]))=[y.row]:=rfl;have m4:bX 11 (bD 11 (E.rows [y]))=true:=by simp[E.rows,bN,E.az]
 have v1:aD (aI [y])=true:=aQ;have v2:(aI [y]).view=aI [y]:=aN;have v3:aM (aI [y])=[y.row]:=rfl;have v4:bX 11 (aI [y])=true:=iM;have jO:c.aZ c.V=c:=rfl;have hp:(decide ((9:Int)=1\/(9:Int)=2))=false:=by decide
 have ur:¬((9:Int)=1\/(9:Int)=2):=by decide
 have k1:bH 9 s.on=[]:=rfl;have k2:bJ 9 s.od=0:=rfl;have hR:EW c.H c.sg.bO c.sg.bz c.V s [y] T0=.ok (.mk 9 [] [] 0 [y] [] [] s.a 0,c.V):=by
  unfold EW j6;simp[hk,cv,bH,bJ]
 rw[hR,hk];rw[k1,k2,hp,if_neg ur,if_neg ur];rw[E.az y]at m3 v3;simp only;unfold TG TQ;rw[mS,Sm.az s,hk,jO,pA];generalize bD 11 (E.rows [y])=M at *;generalize aI [y]=yv at *;generalize aI s.es=kv at *;generalize aS s.bd=bv at *;generalize aS s.el=lv at *;generalize c.aT=o at *;simp[-ah,-aa,iq,gi,ox,fy,m2,v1,ag,AV.view]
theorem LI(c:CK)(s:Sm)(hf:c.fe=0)(hw:pS c)(dF:c.V.length+Sm.sz s<1000000000)(hk:s.k=3)(h:cI c.sg.bO s.k s.es=true):qE pre c s:=by
 refine pD c s hf hw dF h T0 (by rw[hk];rfl) λys rK=>?_;have jR:td c.H c.V s.k s.es=kM c.H c.V s.es:=if_neg (by omega);rw[jR]at rK;rw[hk]at h;obtain⟨y,rfl⟩:=xP (by simpa [cI] using h) rK;have fy:=λaf=>gz (pre:=pre) af c [];rw[decide_eq_true hf]at fy;have eI:=λwl af st=>ot wl af st;have eT:=λwl af st=>l8 wl af st;have oy:=λaf=>jl (pre:=pre) af c s.a [];have eV:=λaf=>gK (pre:=pre) af c s.nm [] hw.s;have Cs:=λwl af bx=>wH (pre:=pre) (wl:=wl) (af:=af) (c:=c) (r:=[]) (bx:=bx);have Ih:=λwl af bx=>yw (pre:=pre) (wl:=wl) (af:=af) (c:=c) (r:=[]) (bx:=bx);obtain⟨e1,b1,l1⟩:=eF (s:=s);have b2:(aS s.bd).view=aS s.bd:=aO;have l2:(aS s.el).view=aS s.el:=aO;have m1:aD (bD 11 (E.rows [y]))=true:=bY;have m2:(bD 11 (E.rows [y])).view=aI [y]:=rfl;have m3:aM (bD 11 (E.rows [y]))=[y.row]:=rfl;have m4:bX 11 (bD 11 (E.rows [y]))=true:=by simp[E.rows,bN,E.az]
 have v1:aD (aI [y])=true:=aQ;have v2:(aI [y]).view=aI [y]:=aN;have v3:aM (aI [y])=[y.row]:=rfl;have v4:bX 11 (aI [y])=true:=iM;have jO:c.aZ c.V=c:=rfl;have hp:(decide ((3:Int)=1\/(3:Int)=2))=false:=by decide
 have ur:¬((3:Int)=1\/(3:Int)=2):=by decide
 have k1:bH 3 s.on=[]:=rfl;have k2:bJ 3 s.od=0:=rfl;have hR:EW c.H c.sg.bO c.sg.bz c.V s [y] T0=match rX c.H c.V s.nm with
   |some (u,r)=>if u=y.ty then .ok (.mk 3 s.nm [] 0 [y] [] [] s.a r,c.V) else .error s.a
   |none=>.error s.a:=by
  unfold EW j6;simp only[hk];cases rX c.H c.V s.nm with
  |none=>simp|some x=>by_cases q:x.1=y.ty<;>simp[qP,q,cv,bH,bJ]
 rw[hR,hk];rw[k1,k2,hp,if_neg ur,if_neg ur];rw[E.az y]at m3 v3;cases hx:rX c.H c.V s.nm with
 |none=>
  rw[hx]at eV;simp only;refine⟨c.V,[.int .i64 3,.str [],.str [],.int .i64 0,aI [y],.U,.U,.int .i64 s.a,.int .i64 0],⟨_,_,_,_,_,_,_,_,_,rfl,v1,rfl,rfl⟩,?_⟩;unfold TG TQ;rw[Sm.az s,hk,jO];generalize bD 11 (E.rows [y])=M at *;generalize aI [y]=yv at *;generalize aI s.es=kv at *;generalize aS s.bd=bv at *;generalize aS s.el=lv at *;generalize (c.fail s.a).aT=o2 at *;generalize c.aT=o at *;simp[-ah,-aa,iq,gi,ox,fy,eV,wI,oy,m2,v1,au,an,ag,AV.view]
 |some x=>
  obtain⟨u,r⟩:=x;rw[hx]at eV;simp only;by_cases q:u=y.ty;rw[if_pos q];have q:(u=y.ty)=True:=eq_true q;simp only;unfold TG TQ;rw[mS,Sm.az s,hk,jO,pA];generalize bD 11 (E.rows [y])=M at *;generalize aI [y]=yv at *;generalize aI s.es=kv at *;generalize aS s.bd=bv at *;generalize aS s.el=lv at *;generalize c.aT=o at *;simp[-ah,-aa,aX,iq,gi,ox,fy,eV,wI,dU,q,m2,v1,v3,v4,au,an,ag,AV.view];rw[if_neg q];simp only;refine⟨c.V,[.int .i64 3,.str [],.str [],.int .i64 0,aI [y],.U,.U,.int .i64 s.a,.int .i64 r],⟨_,_,_,_,_,_,_,_,_,rfl,v1,rfl,rfl⟩,?_⟩;unfold TG TQ;rw[Sm.az s,hk,jO];generalize bD 11 (E.rows [y])=M at *;generalize aI [y]=yv at *;generalize aI s.es=kv at *;generalize aS s.bd=bv at *;generalize aS s.el=lv at *;generalize (c.fail s.a).aT=o2 at *;generalize c.aT=o at *;simp[-ah,-aa,aX,iq,gi,ox,fy,eV,wI,dU,q,oy,m2,v1,v3,v4,au,an,ag,AV.view]
theorem WD(c:CK)(s:Sm)(hf:c.fe=0)(hw:pS c)(dF:c.V.length+Sm.sz s<1000000000)(hk:s.k=7)(h:cI c.sg.bO s.k s.es=true)(hh:c.sg.bO=true):qE pre c s:=by
 refine pD c s hf hw dF h T0 (by rw[hk];rfl) λys rK=>?_;have jR:td c.H c.V s.k s.es=kM c.H c.V s.es:=if_neg (by omega);rw[jR]at rK;rw[hk]at h;obtain⟨y,rfl⟩:=xP (by rw[hh]at h;simpa [cI] using h) rK;have fy:=λaf=>gz (pre:=pre) af c [];rw[decide_eq_true hf]at fy;have eI:=λwl af st=>ot wl af st;have eT:=λwl af st=>l8 wl af st;have oy:=λaf=>jl (pre:=pre) af c s.a [];have eV:=λaf=>gK (pre:=pre) af c s.nm [] hw.s;have Cs:=λwl af bx=>wH (pre:=pre) (wl:=wl) (af:=af) (c:=c) (r:=[]) (bx:=bx);have Ih:=λwl af bx=>yw (pre:=pre) (wl:=wl) (af:=af) (c:=c) (r:=[]) (bx:=bx);obtain⟨e1,b1,l1⟩:=eF (s:=s);have b2:(aS s.bd).view=aS s.bd:=aO;have l2:(aS s.el).view=aS s.el:=aO;have m1:aD (bD 11 (E.rows [y]))=true:=bY;have m2:(bD 11 (E.rows [y])).view=aI [y]:=rfl;have m3:aM (bD 11 (E.rows [y]))=[y.row]:=rfl;have m4:bX 11 (bD 11 (E.rows [y]))=true:=by simp[E.rows,bN,E.az]
 have v1:aD (aI [y])=true:=aQ;have v2:(aI [y]).view=aI [y]:=aN;have v3:aM (aI [y])=[y.row]:=rfl;have v4:bX 11 (aI [y])=true:=iM;have jO:c.aZ c.V=c:=rfl;have hp:(decide ((7:Int)=1\/(7:Int)=2))=false:=by decide
 have ur:¬((7:Int)=1\/(7:Int)=2):=by decide
 have k1:bH 7 s.on=[]:=rfl;have k2:bJ 7 s.od=0:=rfl;have hR:EW c.H c.sg.bO c.sg.bz c.V s [y] T0=if y.ty=c.sg.bz then .ok (.mk 7 [] [] 0 [y] [] [] s.a 0,c.V) else .error s.a:=by
  unfold EW j6;simp only[hk];by_cases q:y.ty=c.sg.bz;simp[qP,q,cv,bH,bJ];simp[qP,q]
 rw[hh]at Cs;rw[hR,hk];rw[k1,k2,hp,if_neg ur,if_neg ur];rw[E.az y]at m3 v3;by_cases q:y.ty=c.sg.bz;rw[if_pos q];have q:(y.ty=c.sg.bz)=True:=eq_true q;simp only;unfold TG TQ;rw[mS,Sm.az s,hk,jO,pA];generalize bD 11 (E.rows [y])=M at *;generalize aI [y]=yv at *;generalize aI s.es=kv at *;generalize aS s.bd=bv at *;generalize aS s.el=lv at *;generalize c.aT=o at *;simp[-ah,-aa,aX,iq,gi,ox,fy,Cs,Ih,dU,q,m2,v1,v3,v4,au,an,ag,AV.view];rw[if_neg q];simp only;refine⟨c.V,[.int .i64 7,.str [],.str [],.int .i64 0,aI [y],.U,.U,.int .i64 s.a,.int .i64 0],⟨_,_,_,_,_,_,_,_,_,rfl,v1,rfl,rfl⟩,?_⟩;unfold TG TQ;rw[Sm.az s,hk,jO];generalize bD 11 (E.rows [y])=M at *;generalize aI [y]=yv at *;generalize aI s.es=kv at *;generalize aS s.bd=bv at *;generalize aS s.el=lv at *;generalize (c.fail s.a).aT=o2 at *;generalize c.aT=o at *;simp[-ah,-aa,aX,iq,gi,ox,fy,Cs,Ih,dU,q,oy,m2,v1,v3,v4,au,an,ag,AV.view]
theorem WE(c:CK)(s:Sm)(hf:c.fe=0)(hw:pS c)(dF:c.V.length+Sm.sz s<1000000000)(hk:s.k=7)(h:cI c.sg.bO s.k s.es=true)(hh:c.sg.bO=false):qE pre c s:=by
 refine pD c s hf hw dF h T0 (by rw[hk];rfl) λys rK=>?_;have jR:td c.H c.V s.k s.es=kM c.H c.V s.es:=if_neg (by omega);rw[jR]at rK;rw[hk]at h;obtain rfl:ys=[]:=by
  have h0:s.es=[]:=by rw[hh]at h;simpa [cI] using h
  have:=nY rK;rw[h0]at this;exact List.eq_nil_of_length_eq_zero this
 have fy:=λaf=>gz (pre:=pre) af c [];rw[decide_eq_true hf]at fy;have eI:=λwl af st=>ot wl af st;have eT:=λwl af st=>l8 wl af st;have oy:=λaf=>jl (pre:=pre) af c s.a [];have eV:=λaf=>gK (pre:=pre) af c s.nm [] hw.s;have Cs:=λwl af bx=>wH (pre:=pre) (wl:=wl) (af:=af) (c:=c) (r:=[]) (bx:=bx);have Ih:=λwl af bx=>yw (pre:=pre) (wl:=wl) (af:=af) (c:=c) (r:=[]) (bx:=bx);obtain⟨e1,b1,l1⟩:=eF (s:=s);have b2:(aS s.bd).view=aS s.bd:=aO;have l2:(aS s.el).view=aS s.el:=aO;have m1:aD (bD 11 (E.rows []))=true:=bY;have m2:(bD 11 (E.rows [])).view=aI []:=rfl;have m3:aM (bD 11 (E.rows []))=[]:=rfl;have m4:bX 11 (bD 11 (E.rows []))=true:=by simp[E.rows,bN]
 have v1:aD (aI [])=true:=aQ;have v2:(aI []).view=aI []:=aN;have v3:aM (aI [])=[]:=rfl;have v4:bX 11 (aI [])=true:=iM;have jO:c.aZ c.V=c:=rfl;have hp:(decide ((7:Int)=1\/(7:Int)=2))=false:=by decide
 have ur:¬((7:Int)=1\/(7:Int)=2):=by decide
 have k1:bH 7 s.on=[]:=rfl;have k2:bJ 7 s.od=0:=rfl;have hR:EW c.H c.sg.bO c.sg.bz c.V s [] T0=.ok (.mk 7 [] [] 0 [] [] [] s.a 0,c.V):=by
  unfold EW j6;simp[hk,cv,bH,bJ]
 rw[hh]at Cs;rw[hR,hk];rw[k1,k2,hp,if_neg ur,if_neg ur];simp only;unfold TG TQ;rw[mS,Sm.az s,hk,jO,pA];generalize bD 11 (E.rows [])=M at *;generalize aI []=yv at *;generalize aI s.es=kv at *;generalize aS s.bd=bv at *;generalize aS s.el=lv at *;generalize c.aT=o at *;simp[-ah,-aa,iq,gi,ox,fy,Cs,m2,v1,au,an,ag,AV.view]
theorem LO(c:CK)(s:Sm)(hf:c.fe=0)(hw:pS c)(dF:c.V.length+Sm.sz s<1000000000)(hk:s.k=7)(h:cI c.sg.bO s.k s.es=true):qE pre c s:=by
 cases hh:c.sg.bO with
 |true=>exact WD c s hf hw dF hk h hh|false=>exact WE c s hf hw dF hk h hh
theorem xJ(af:Nat)(c:CK)(l:List Sm)(hf:c.fe≠0):(bh S).call 0 af 51 [.ptr pre.length 0 0 0,aS l] (pre++[c.aT])=some (.U,pre++[c.aT]):=by
 have cA:aD (aS l)=true:=bn;have dW:(aS l).view=aS l:=aO;have cN:aM (aS l)=Sm.rows l:=aE;have fy:=λaf=>gz (pre:=pre) af c [];rw[decide_eq_false hf]at fy;generalize aS l=lv at *;generalize c.aT=o at *;refine ay (sf:=Zm) rfl rfl rfl ?_;simp[-ah,-aa,Zm];rw[qx Hx.eq_1];by_cases h:0<l.length;simp[-ah,-aa,cA,dW,cN,h,fy];simp[-ah,-aa,cA,dW,cN,h]
theorem LN(c:CK)(s:Sm)(hf:c.fe=0)(hw:pS c)(dF:c.V.length+Sm.sz s<1000000000)(hk:s.k=6)(h:cI c.sg.bO s.k s.es=true)(y7:∀d:CK,d.H=c.H->d.sg=c.sg->d.fe=0->pS d->d.V.length+Sm.cQ s.bd<1000000000->AJ pre d s.bd):qE pre c s:=by
 refine pD c s hf hw dF h T0 (by rw[hk];rfl) λys rK=>?_;have jR:td c.H c.V s.k s.es=kM c.H c.V s.es:=if_neg (by omega);rw[jR]at rK;rw[hk]at h;obtain⟨y,rfl⟩:=xP (by simpa [cI] using h) rK;have fy:=λaf=>gz (pre:=pre) af c [];rw[decide_eq_true hf]at fy;have eI:=λwl af st=>ot wl af st;have eT:=λwl af st=>l8 wl af st;have oy:=λaf=>jl (pre:=pre) af c s.a [];have eV:=λaf=>gK (pre:=pre) af c s.nm [] hw.s;have Cs:=λwl af bx=>wH (pre:=pre) (wl:=wl) (af:=af) (c:=c) (r:=[]) (bx:=bx);have Ih:=λwl af bx=>yw (pre:=pre) (wl:=wl) (af:=af) (c:=c) (r:=[]) (bx:=bx);obtain⟨e1,b1,l1⟩:=eF (s:=s);have b2:(aS s.bd).view=aS s.bd:=aO;have l2:(aS s.el).view=aS s.el:=aO;have m1:aD (bD 11 (E.rows [y]))=true:=bY;have m2:(bD 11 (E.rows [y])).view=aI [y]:=rfl;have m3:aM (bD 11 (E.rows [y]))=[y.row]:=rfl;have m4:bX 11 (bD 11 (E.rows [y]))=true:=by simp[E.rows,bN,E.az]
 have v1:aD (aI [y])=true:=aQ;have v2:(aI [y]).view=aI [y]:=aN;have v3:aM (aI [y])=[y.row]:=rfl;have v4:bX 11 (aI [y])=true:=iM;have jO:c.aZ c.V=c:=rfl;have hp:(decide ((6:Int)=1\/(6:Int)=2))=false:=by decide
 have ur:¬((6:Int)=1\/(6:Int)=2):=by decide
 have k1:bH 6 s.on=[]:=rfl;have k2:bJ 6 s.od=0:=rfl;have hR:EW c.H c.sg.bO c.sg.bz c.V s [y] T0=if y.ty=tB then (match ki c.H c.sg.bO c.sg.bz c.V s.bd with
   |.error x=>.error x|.ok (b,W1)=>.ok (.mk 6 [] [] 0 [y] b [] s.a 0,W1)) else .error s.a:=by
  unfold EW j6;simp only[hk];by_cases q:y.ty=tB;simp[qP,q,cv,bH,bJ]<;>rfl;simp[qP,q]
 have hz:=Sm.jM s;have hB:=y7 c rfl rfl hf hw (by omega);unfold AJ at hB;rw[hR,hk];rw[k1,k2,hp,if_neg ur,if_neg ur];rw[E.az y]at m3 v3;by_cases q:y.ty=tB;rw[if_pos q];cases hb:ki c.H c.sg.bO c.sg.bz c.V s.bd with
 |error a=>
  rw[hb]at hB;simp only at hB ⊢;obtain⟨W,v,w1,hB⟩:=hB (pre.length+1);have w2:aD v.view=true:=by rw[jY];exact w1
  have w3:v.view.view=v.view:=oK v;refine⟨W,[.int .i64 6,.str [],.str [],.int .i64 0,aI [y],v.view,.U,.int .i64 s.a,.int .i64 0],⟨_,_,_,_,_,_,_,_,_,rfl,v1,w2,rfl⟩,?_⟩;unfold TG TQ;rw[Sm.az s,hk];generalize bD 11 (E.rows [y])=M at *;generalize aI [y]=yv at *;generalize aI s.es=kv at *;generalize aS s.bd=bv at *;generalize aS s.el=lv at *;generalize ((c.aZ W).fail a).aT=o2 at *;generalize c.aT=o at *;simp[-ah,-aa,aX,iq,gi,ox,fy,eT,q,hB,w1,w2,m2,v1,v3,v4,b2,au,an,ag,AV.view]
 |ok x=>
  obtain⟨b,W1⟩:=x;rw[hb]at hB;simp only at hB ⊢;unfold TG TQ;rw[mS,Sm.az s,hk,pA];have w1:aD (bD 9 (Sm.rows b))=true:=bY;have w2:(bD 9 (Sm.rows b)).view=aS b:=rfl;have w3:aD (aS b)=true:=bn;have w4:(aS b).view=aS b:=aO;generalize bD 9 (Sm.rows b)=BM at *;generalize aS b=BV at *;generalize bD 11 (E.rows [y])=M at *;generalize aI [y]=yv at *;generalize aI s.es=kv at *;generalize aS s.bd=bv at *;generalize aS s.el=lv at *;generalize (c.aZ W1).aT=o2 at *;generalize c.aT=o at *;simp[-ah,-aa,aX,iq,gi,ox,fy,eT,q,hB,w1,w2,w3,m2,v1,v3,v4,b2,au,an,ag,AV.view]
 rw[if_neg q];simp only;refine⟨c.V,[.int .i64 6,.str [],.str [],.int .i64 0,aI [y],.U,.U,.int .i64 s.a,.int .i64 0],⟨_,_,_,_,_,_,_,_,_,rfl,v1,rfl,rfl⟩,?_⟩;unfold TG TQ;rw[Sm.az s,hk,jO];generalize bD 11 (E.rows [y])=M at *;generalize aI [y]=yv at *;generalize aI s.es=kv at *;generalize aS s.bd=bv at *;generalize aS s.el=lv at *;generalize (c.fail s.a).aT=o2 at *;generalize c.aT=o at *;simp[-ah,-aa,aX,iq,gi,ox,fy,eT,dB,q,oy,m2,v1,v3,v4,au,an,ag,AV.view]
theorem LM(c:CK)(s:Sm)(hf:c.fe=0)(hw:pS c)(dF:c.V.length+Sm.sz s<1000000000)(hk:s.k=5)(h:cI c.sg.bO s.k s.es=true)(y7:∀d:CK,d.H=c.H->d.sg=c.sg->d.fe=0->pS d->d.V.length+Sm.cQ s.bd<1000000000->AJ pre d s.bd)(S4:∀d:CK,d.H=c.H->d.sg=c.sg->d.fe=0->pS d->d.V.length+Sm.cQ s.el<1000000000->AJ pre d s.el):qE pre c s:=by
 refine pD c s hf hw dF h T0 (by rw[hk];rfl) λys rK=>?_;have jR:td c.H c.V s.k s.es=kM c.H c.V s.es:=if_neg (by omega);rw[jR]at rK;rw[hk]at h;obtain⟨y,rfl⟩:=xP (by simpa [cI] using h) rK;have fy:=λaf=>gz (pre:=pre) af c [];rw[decide_eq_true hf]at fy;have eI:=λwl af st=>ot wl af st;have eT:=λwl af st=>l8 wl af st;have oy:=λaf=>jl (pre:=pre) af c s.a [];have eV:=λaf=>gK (pre:=pre) af c s.nm [] hw.s;have Cs:=λwl af bx=>wH (pre:=pre) (wl:=wl) (af:=af) (c:=c) (r:=[]) (bx:=bx);have Ih:=λwl af bx=>yw (pre:=pre) (wl:=wl) (af:=af) (c:=c) (r:=[]) (bx:=bx);obtain⟨e1,b1,l1⟩:=eF (s:=s);have b2:(aS s.bd).view=aS s.bd:=aO;have l2:(aS s.el).view=aS s.el:=aO;have m1:aD (bD 11 (E.rows [y]))=true:=bY;have m2:(bD 11 (E.rows [y])).view=aI [y]:=rfl;have m3:aM (bD 11 (E.rows [y]))=[y.row]:=rfl;have m4:bX 11 (bD 11 (E.rows [y]))=true:=by simp[E.rows,bN,E.az]
 have v1:aD (aI [y])=true:=aQ;have v2:(aI [y]).view=aI [y]:=aN;have v3:aM (aI [y])=[y.row]:=rfl;have v4:bX 11 (aI [y])=true:=iM;have jO:c.aZ c.V=c:=rfl;have hp:(decide ((5:Int)=1\/(5:Int)=2))=false:=by decide
 have ur:¬((5:Int)=1\/(5:Int)=2):=by decide
 have k1:bH 5 s.on=[]:=rfl;have k2:bJ 5 s.od=0:=rfl;have hR:EW c.H c.sg.bO c.sg.bz c.V s [y] T0=if y.ty=tB then (match ki c.H c.sg.bO c.sg.bz c.V s.bd with
   |.error x=>.error x|.ok (b,W1)=>match ki c.H c.sg.bO c.sg.bz W1 s.el with
    |.error x=>.error x|.ok (d,W2)=>.ok (.mk 5 [] [] 0 [y] b d s.a 0,W2)) else .error s.a:=by
  unfold EW j6;simp only[hk];by_cases q:y.ty=tB;simp[qP,q,cv,bH,bJ]<;>rfl;simp[qP,q]
 have hz:=Sm.jM s;have hB:=y7 c rfl rfl hf hw (by omega);unfold AJ at hB;rw[hR,hk];rw[k1,k2,hp,if_neg ur,if_neg ur];rw[E.az y]at m3 v3;by_cases q:y.ty=tB;rw[if_pos q];cases hb:ki c.H c.sg.bO c.sg.bz c.V s.bd with
 |error a=>
  rw[hb]at hB;simp only at hB ⊢;obtain⟨W,v,w1,hB⟩:=hB (pre.length+1);have w2:aD v.view=true:=by rw[jY];exact w1
  have w3:v.view.view=v.view:=oK v;have hF:=λaf=>xJ (pre:=pre) af ((c.aZ W).fail a) s.el fV;refine⟨W,[.int .i64 5,.str [],.str [],.int .i64 0,aI [y],v.view,.U,.int .i64 s.a,.int .i64 0],⟨_,_,_,_,_,_,_,_,_,rfl,v1,w2,rfl⟩,?_⟩;unfold TG TQ;rw[Sm.az s,hk];generalize bD 11 (E.rows [y])=M at *;generalize aI [y]=yv at *;generalize aI s.es=kv at *;generalize aS s.bd=bv at *;generalize aS s.el=lv at *;generalize ((c.aZ W).fail a).aT=o2 at *;generalize c.aT=o at *;simp[-ah,-aa,aX,iq,gi,ox,fy,eT,q,hB,hF,w1,w2,m2,v1,v3,v4,b2,l2,au,an,ag,AV.view]
 |ok x=>
  obtain⟨b,W1⟩:=x;rw[hb]at hB;simp only at hB ⊢;obtain⟨g1,g2⟩:=Lt hw.V hb;have hL:=S4 (c.aZ W1) rfl rfl hf (xI hw g1 (by omega)) (by show W1.length+_<_;omega);unfold AJ at hL;have Cq:ki (c.aZ W1).H (c.aZ W1).sg.bO (c.aZ W1).sg.bz (c.aZ W1).V s.el=ki c.H c.sg.bO c.sg.bz W1 s.el:=rfl;rw[Cq]at hL;have w1:aD (bD 9 (Sm.rows b))=true:=bY;have w2:(bD 9 (Sm.rows b)).view=aS b:=rfl;have w3:aD (aS b)=true:=bn;have w4:(aS b).view=aS b:=aO;cases hc:ki c.H c.sg.bO c.sg.bz W1 s.el with
  |error a=>
   rw[hc]at hL;simp only at hL ⊢;obtain⟨W,v,u1,hL⟩:=hL (pre.length+1);have u2:aD v.view=true:=(by rw[jY];exact u1);have u3:v.view.view=v.view:=oK v;have oz:(c.aZ W1).aZ W=c.aZ W:=rfl;rw[oz]at hL;refine⟨W,[.int .i64 5,.str [],.str [],.int .i64 0,aI [y],aS b,v.view,.int .i64 s.a,.int .i64 0],⟨_,_,_,_,_,_,_,_,_,rfl,v1,w3,u2⟩,?_⟩;unfold TG TQ;rw[Sm.az s,hk];generalize bD 9 (Sm.rows b)=BM at *;generalize aS b=BV at *;generalize bD 11 (E.rows [y])=M at *;generalize aI [y]=yv at *;generalize aI s.es=kv at *;generalize aS s.bd=bv at *;generalize aS s.el=lv at *;generalize (c.aZ W1).aT=o2 at *;generalize ((c.aZ W).fail a).aT=o3 at *;generalize c.aT=o at *;simp[-ah,-aa,aX,iq,gi,ox,fy,eT,q,hB,hL,w1,w2,w3,u1,u2,m2,v1,v3,v4,b2,l2,au,an,ag,AV.view]
  |ok x=>
   obtain⟨d,W2⟩:=x;rw[hc]at hL;simp only at hL ⊢;have oz:(c.aZ W1).aZ W2=c.aZ W2:=rfl;rw[oz]at hL;have u1:aD (bD 9 (Sm.rows d))=true:=bY;have u2:(bD 9 (Sm.rows d)).view=aS d:=rfl;have u3:aD (aS d)=true:=bn;have u4:(aS d).view=aS d:=aO;unfold TG TQ;rw[mS,Sm.az s,hk];generalize bD 9 (Sm.rows b)=BM at *;generalize aS b=BV at *;generalize bD 9 (Sm.rows d)=DM at *;generalize aS d=DV at *;generalize bD 11 (E.rows [y])=M at *;generalize aI [y]=yv at *;generalize aI s.es=kv at *;generalize aS s.bd=bv at *;generalize aS s.el=lv at *;generalize (c.aZ W1).aT=o2 at *;generalize (c.aZ W2).aT=o3 at *;generalize c.aT=o at *;simp[-ah,-aa,aX,iq,gi,ox,fy,eT,q,hB,hL,w1,w2,w3,u1,u2,u3,m2,v1,v3,v4,b2,l2,au,an,ag,AV.view]
 rw[if_neg q];simp only;refine⟨c.V,[.int .i64 5,.str [],.str [],.int .i64 0,aI [y],.U,.U,.int .i64 s.a,.int .i64 0],⟨_,_,_,_,_,_,_,_,_,rfl,v1,rfl,rfl⟩,?_⟩;unfold TG TQ;rw[Sm.az s,hk,jO];generalize bD 11 (E.rows [y])=M at *;generalize aI [y]=yv at *;generalize aI s.es=kv at *;generalize aS s.bd=bv at *;generalize aS s.el=lv at *;generalize (c.fail s.a).aT=o2 at *;generalize c.aT=o at *;simp[-ah,-aa,aX,iq,gi,ox,fy,eT,dB,q,oy,m2,v1,v3,v4,au,an,ag,AV.view]
end R9
namespace R9
open Ax Go bu V7 jG j9 K9
variable {pre:aj}
theorem rT(c:CK)(s:Sm)(af:Nat)(g:Bool)(hn:c.V.length<1000000000){rs:List iE}{Q:Ex->St->Prop}{kk:List qv}(bs:List (List AV))(row:List AV)(cZ:row=s.row)
  (F7:W S 0 af rs Q kk .normal ⟨[(0,.val (.ptr pre.length 0 0 0)),(3,.fp 0 0),(4,.fp 1 0),(5,.fp 2 0),(6,.fp 3 0),(7,.val (.bool true)),(11,.val (.bool (g&&(eH s.nm 0 c.V).isNone)))],row::bs,pre++[c.aT]⟩) :
  W S 0 af rs Q (.code (.loop Le)::.jF 3::kk) .normal ⟨[(0,.val (.ptr pre.length 0 0 0)),(3,.fp 0 0),(4,.fp 1 0),(5,.fp 2 0),(6,.fp 3 0),(7,.val (.bool true)),(11,.val (.bool g)),(15,.val (.int .i64 0))],row::bs,pre++[c.aT]⟩:=by
 subst cZ;rw[Sm.az]at *;have hzV:bX 4 (br c.V)=true:=qR;have L7:aD (br c.V)=true:=dK;have PJ:aM (br c.V)=c.V.map Vd.row:=oV;have Iu:=λwl af bx=>Ak (pre:=pre) (wl:=wl) (af:=af) (c:=c) (r:=[]) (bx:=bx);generalize br c.V=VV at *;generalize c.aT=o at *;refine bf Le.eq_1 (λx:Nat×Bool=>⟨[(0,.val (.ptr pre.length 0 0 0)),(3,.fp 0 0),(4,.fp 1 0),(5,.fp 2 0),(6,.fp 3 0),(7,.val (.bool true)),(11,.val (.bool x.2)),(15,.val (.int .i64 x.1))],[.int .i64 s.k,.str s.nm,.str s.on,.int .i64 s.od,aI s.es,aS s.bd,aS s.el,.int .i64 s.a,.int .i64 s.cG]::bs,pre++[o]⟩)
  (λx=>x.1<=c.V.length/\(g&&(eH s.nm 0 c.V).isNone)=(x.2&&(eH s.nm x.1 (c.V.drop x.1)).isNone)) (λx=>c.V.length-x.1) (0,g) rfl ⟨by simp,by simp⟩ ?_
 rintro⟨k,b⟩ ⟨hk,hp⟩ ih;simp only at hk hp ih;by_cases aW:k<c.V.length;have hw:=wk k (by omega);rw[tM aW]at hp;cases b with
 |false=>
  have dx:=ih (k+1,false) ⟨by simp only;omega,by rw[hp];rfl⟩ (by simp only;omega);simp[-ah,-aa,Iu,L7,PJ,aW,hw,au,an];exact dx
 |true=>
  by_cases e:c.V[k].nm=s.nm;rw[if_pos e]at hp;have dx:=ih (k+1,false) ⟨by simp only;omega,by rw[hp];rfl⟩ (by simp only;omega);simp[-ah,-aa,aX,Iu,L7,hzV,PJ,aW,hw,e,Vd.row,au,an];exact dx;rw[if_neg e]at hp;have dx:=ih (k+1,true) ⟨by simp only;omega,hp⟩ (by simp only;omega);simp[-ah,-aa,aX,Iu,L7,hzV,PJ,aW,hw,e,Vd.row,au,an];exact dx
 have eK:k=c.V.length:=by omega
 have:b=(g&&(eH s.nm 0 c.V).isNone):=by rw[hp,eK,List.drop_length];simp[eH]
 rw[<-this]at F7;simp[-ah,-aa,Iu,L7,PJ,aW];exact F7
theorem afi(c:CK)(s:List UInt8)(t:T3)(hn:c.V.length<1000000000):nH 4 40 (bD 4 (c.V.map Vd.row)) [[.str s,.int .i64 t.b,.int .i64 t.r,.int .i64 t.d]]=some (bD 4 ((c.V++[(⟨s,t⟩:Vd)]).map Vd.row)):=by
 have lJ:=dV (sz:=4) (bytes:=40) (r:=c.V.map Vd.row) (new:=[[.str s,.int .i64 t.b,.int .i64 t.r,.int .i64 t.d]]) (by simp[bN]) (by simp[cR];omega);have VW:c.V.map Vd.row++[[.str s,.int .i64 t.b,.int .i64 t.r,.int .i64 t.d]]=(c.V++[(⟨s,t⟩:Vd)]).map Vd.row:=by simp[Vd.row]
 rw[VW]at lJ;exact lJ
theorem LF(c:CK)(s:Sm)(hf:c.fe=0)(hw:pS c)(dF:c.V.length+Sm.sz s<1000000000)(hk:s.k=1)(h:cI c.sg.bO s.k s.es=true):qE pre c s:=by
 cases ht:kS c.H s.k s.on s.od with
 |none=>
  have hz:=Sm.jM s;have E4:=E.dD s.es;unfold qE;rw[nk,if_pos h,ht];simp only;exact λaf=>⟨c.V,_,⟨_,_,_,_,_,_,_,_,_,rfl,rfl,rfl,rfl⟩,GH c s af hw.s (by omega) h ht⟩
 |some t=>
  refine pD c s hf hw dF h t ht λys rK=>?_;have jR:td c.H c.V s.k s.es=kM c.H c.V s.es:=if_neg (by omega);rw[jR]at rK;rw[hk]at h;obtain rfl:ys=[]:=by
   have h0:s.es.length=0:=(by simpa [cI] using h);have:=nY rK;exact List.eq_nil_of_length_eq_zero (by omega)
  have X4:=hw.s.V;have fy:=λaf=>gz (pre:=pre) af c [];rw[decide_eq_true hf]at fy;have oy:=λaf=>jl (pre:=pre) af c s.a [];have Iu:=λwl af bx=>Ak (pre:=pre) (wl:=wl) (af:=af) (c:=c) (r:=[]) (bx:=bx);have et:=λaf bx=>HY (pre:=pre) (af:=af) (c:=c) (bx:=bx);have ep:=λaf bx=>Nm (pre:=pre) (af:=af) (c:=c) (w:=(bD 4 (c.V.map Vd.row)).dJ) (W:=c.V++[(⟨s.nm,t⟩:Vd)]) (bx:=bx);have lJ:=afi c s.nm t X4;obtain⟨e1,b1,l1⟩:=eF (s:=s);have m0:bD 11 (E.rows [])=.U:=rfl;have L7:aD (br c.V)=true:=dK;have PJ:(aM (br c.V)).length=c.V.length:=by simp
  have jO:c.aZ c.V=c:=rfl;have hp:(decide ((1:Int)=1\/(1:Int)=2))=true:=by decide
  have ur:((1:Int)=1\/(1:Int)=2):=by decide
  have k1:bH 1 s.on=s.on:=rfl;have k2:bJ 1 s.od=s.od:=rfl;have HU:IntKind.i64.wrap (c.V.length:Int)=c.V.length:=by rw[dZ]<;>omega
  have hR:EW c.H c.sg.bO c.sg.bz c.V s [] t=match eH s.nm 0 c.V with
    |some _=>.error s.a|none=>.ok (.mk 1 s.nm s.on s.od [] [] [] s.a c.V.length,c.V++[⟨s.nm,t⟩]):=by
   unfold EW j6;simp only[hk];cases eH s.nm 0 c.V<;>simp[cv,bH,bJ]
  rw[hR,hk];rw[k1,k2,hp,if_pos ur,if_pos ur,m0];cases hx:eH s.nm 0 c.V with
  |some x=>
   simp only;refine⟨c.V,[.int .i64 1,.str [],.str s.on,.int .i64 s.od,.U,.U,.U,.int .i64 s.a,.int .i64 c.V.length],⟨_,_,_,_,_,_,_,_,_,rfl,rfl,rfl,rfl⟩,?_⟩;unfold TG TQ;have sE:=fun {Q:Ex->St->Prop} {rs:List iE} {kk:List qv} bs af=>rT (pre:=pre) c s af true X4 (rs:=rs) (Q:=Q) (kk:=kk) bs _ rfl;rw[hx]at sE;rw[Sm.az s,hk,jO]at *;generalize aI s.es=kv at *;generalize aS s.bd=bv at *;generalize aS s.el=lv at *;generalize (c.fail s.a).aT=o2 at *;generalize c.aT=o at *;simp[-ah,-aa,iq,gi,ox,fy,AV.view];refine sE _ _ ?_;simp[-ah,-aa,Iu,L7,oy,ag,AV.view]
  |none=>
   simp only;unfold TG TQ;have sE:=fun {Q:Ex->St->Prop} {rs:List iE} {kk:List qv} bs af=>rT (pre:=pre) c s af true X4 (rs:=rs) (Q:=Q) (kk:=kk) bs _ rfl;rw[hx]at sE;have vR:({ c with V:=c.V++[(⟨s.nm,t⟩:Vd)] }:CK)=c.aZ (c.V++[⟨s.nm,t⟩]):=rfl;rw[vR]at ep;rw[mS,pA];rw[Sm.az s,hk]at *;have q1:aI []=.U:=rfl;rw[q1];generalize br c.V=FV at *;generalize (c.aZ (c.V++[⟨s.nm,t⟩])).aT=o2 at *;generalize bD 4 ((c.V++[(⟨s.nm,t⟩:Vd)]).map Vd.row)=M2 at *;generalize c.Es (bD 4 (c.V.map Vd.row)).dJ=o3 at *;generalize bD 4 (c.V.map Vd.row)=M1 at *;generalize aI s.es=kv at *;generalize aS s.bd=bv at *;generalize aS s.el=lv at *;generalize c.aT=o at *;simp[-ah,-aa,iq,gi,ox,fy,AV.view];refine sE _ _ ?_;simp[-ah,-aa,Iu,et,ep,lJ,L7,PJ,au,an,ag,AV.view]
theorem LH(c:CK)(s:Sm)(hf:c.fe=0)(hw:pS c)(dF:c.V.length+Sm.sz s<1000000000)(hk:s.k=2)(h:cI c.sg.bO s.k s.es=true):qE pre c s:=by
 cases ht:kS c.H s.k s.on s.od with
 |none=>
  have hz:=Sm.jM s;have E4:=E.dD s.es;unfold qE;rw[nk,if_pos h,ht];simp only;exact λaf=>⟨c.V,_,⟨_,_,_,_,_,_,_,_,_,rfl,rfl,rfl,rfl⟩,GH c s af hw.s (by omega) h ht⟩
 |some t=>
  refine pD c s hf hw dF h t ht λys rK=>?_;have jR:td c.H c.V s.k s.es=kM c.H c.V s.es:=if_neg (by omega);rw[jR]at rK;rw[hk]at h;obtain⟨y,rfl⟩:=xP (by simpa [cI] using h) rK;have m1:aD (bD 11 (E.rows [y]))=true:=bY;have m2:(bD 11 (E.rows [y])).view=aI [y]:=rfl;have m3:aM (bD 11 (E.rows [y]))=[y.row]:=rfl;have m4:bX 11 (bD 11 (E.rows [y]))=true:=by simp[E.rows,bN,E.az]
  have v1:aD (aI [y])=true:=aQ;have v2:(aI [y]).view=aI [y]:=aN;have v3:aM (aI [y])=[y.row]:=rfl;have v4:bX 11 (aI [y])=true:=iM;rw[E.az y]at m3 v3;have X4:=hw.s.V;have fy:=λaf=>gz (pre:=pre) af c [];rw[decide_eq_true hf]at fy;have oy:=λaf=>jl (pre:=pre) af c s.a [];have Iu:=λwl af bx=>Ak (pre:=pre) (wl:=wl) (af:=af) (c:=c) (r:=[]) (bx:=bx);have et:=λaf bx=>HY (pre:=pre) (af:=af) (c:=c) (bx:=bx);have ep:=λaf bx=>Nm (pre:=pre) (af:=af) (c:=c) (w:=(bD 4 (c.V.map Vd.row)).dJ) (W:=c.V++[(⟨s.nm,t⟩:Vd)]) (bx:=bx);have lJ:=afi c s.nm t X4;obtain⟨e1,b1,l1⟩:=eF (s:=s);have L7:aD (br c.V)=true:=dK;have PJ:(aM (br c.V)).length=c.V.length:=by simp
  have jO:c.aZ c.V=c:=rfl;have hp:(decide ((2:Int)=1\/(2:Int)=2))=true:=by decide
  have ur:((2:Int)=1\/(2:Int)=2):=by decide
  have k1:bH 2 s.on=s.on:=rfl;have k2:bJ 2 s.od=s.od:=rfl;have HU:IntKind.i64.wrap (c.V.length:Int)=c.V.length:=by rw[dZ]<;>omega
  have hR:EW c.H c.sg.bO c.sg.bz c.V s [y] t=if y.ty=t then (match eH s.nm 0 c.V with
    |some _=>.error s.a|none=>.ok (.mk 2 s.nm s.on s.od [y] [] [] s.a c.V.length,c.V++[⟨s.nm,t⟩])) else .error s.a:=by
   unfold EW j6;simp only[hk];by_cases q:y.ty=t;cases eH s.nm 0 c.V<;>simp[qP,q,cv,bH,bJ];simp[qP,q]
  rw[hR,hk];rw[k1,k2,hp,if_pos ur,if_pos ur];by_cases q:y.ty=t;rw[if_pos q];have q:(y.ty=t)=True:=eq_true q;cases hx:eH s.nm 0 c.V with
  |some x=>
   simp only;refine⟨c.V,[.int .i64 2,.str [],.str s.on,.int .i64 s.od,aI [y],.U,.U,.int .i64 s.a,.int .i64 c.V.length],⟨_,_,_,_,_,_,_,_,_,rfl,v1,rfl,rfl⟩,?_⟩;unfold TG TQ;have sE:=fun {Q:Ex->St->Prop} {rs:List iE} {kk:List qv} bs af=>rT (pre:=pre) c s af true X4 (rs:=rs) (Q:=Q) (kk:=kk) bs _ rfl;rw[hx]at sE;rw[Sm.az s,hk,jO]at *;generalize bD 11 (E.rows [y])=M at *;generalize aI [y]=yv at *;generalize aI s.es=kv at *;generalize aS s.bd=bv at *;generalize aS s.el=lv at *;generalize (c.fail s.a).aT=o2 at *;generalize c.aT=o at *;simp[-ah,-aa,aX,iq,gi,ox,fy,m2,v3,v4,dU,q,au,an,AV.view];refine sE _ _ ?_;simp[-ah,-aa,Iu,L7,oy,m2,v1,ag,AV.view]
  |none=>
   simp only;unfold TG TQ;have sE:=fun {Q:Ex->St->Prop} {rs:List iE} {kk:List qv} bs af=>rT (pre:=pre) c s af true X4 (rs:=rs) (Q:=Q) (kk:=kk) bs _ rfl;rw[hx]at sE;have vR:({ c with V:=c.V++[(⟨s.nm,t⟩:Vd)] }:CK)=c.aZ (c.V++[⟨s.nm,t⟩]):=rfl;rw[vR]at ep;rw[mS,pA];rw[Sm.az s,hk]at *;generalize br c.V=FV at *;generalize (c.aZ (c.V++[⟨s.nm,t⟩])).aT=o2 at *;generalize bD 4 ((c.V++[(⟨s.nm,t⟩:Vd)]).map Vd.row)=M2 at *;generalize c.Es (bD 4 (c.V.map Vd.row)).dJ=o3 at *;generalize bD 4 (c.V.map Vd.row)=M1 at *;generalize bD 11 (E.rows [y])=M at *;generalize aI [y]=yv at *;generalize aI s.es=kv at *;generalize aS s.bd=bv at *;generalize aS s.el=lv at *;generalize c.aT=o at *;simp[-ah,-aa,aX,iq,gi,ox,fy,m2,v3,v4,dU,q,au,an,AV.view];refine sE _ _ ?_;simp[-ah,-aa,Iu,et,ep,lJ,L7,PJ,m2,v1,au,an,ag,AV.view]
  rw[if_neg q];simp only;refine⟨c.V,[.int .i64 2,.str [],.str s.on,.int .i64 s.od,aI [y],.U,.U,.int .i64 s.a,.int .i64 c.V.length],⟨_,_,_,_,_,_,_,_,_,rfl,v1,rfl,rfl⟩,?_⟩;unfold TG TQ;have sE:=fun {Q:Ex->St->Prop} {rs:List iE} {kk:List qv} bs af=>rT (pre:=pre) c s af false X4 (rs:=rs) (Q:=Q) (kk:=kk) bs _ rfl;rw[Bool.false_and]at sE;rw[Sm.az s,hk,jO]at *;generalize bD 11 (E.rows [y])=M at *;generalize aI [y]=yv at *;generalize aI s.es=kv at *;generalize aS s.bd=bv at *;generalize aS s.el=lv at *;generalize (c.fail s.a).aT=o2 at *;generalize c.aT=o at *;simp[-ah,-aa,aX,iq,gi,ox,fy,m2,v3,v4,dU,q,au,an,AV.view];refine sE _ _ ?_;simp[-ah,-aa,Iu,L7,oy,m2,v1,ag,AV.view]
end R9
namespace R9
open Ax Go bu V7 jG j9 K9
variable {pre:aj}
theorem fh(c:CK)(l:List Sm)(hf:c.fe=0)(hw:pS c)(dF:c.V.length+Sm.cQ l<1000000000)
  (hl:∀s∈l,∀d:CK,d.H=c.H->d.sg=c.sg->d.fe=0->pS d->d.V.length+Sm.sz s<1000000000->qE pre d s):AJ pre c l:=by
 unfold AJ;have hz:bX 9 (aS l)=true:=Aj;have cA:aD (aS l)=true:=bn;have dW:(aS l).view=aS l:=aO;have cN:aM (aS l)=Sm.rows l:=aE;have hlen:=Sm.dD l;have lJ:∀(ys:List Sm) (y:Sm),ys.length<1000000000->nH 9 136 (bD 9 (Sm.rows ys)) [y.row]=some (bD 9 (Sm.rows (ys++[y]))):=λys y h=>by
  rw[dV (by simp[bN,Sm.az]) (by simp[cR];omega)];simp[fY]
 have Bc:∀(ys:List (List AV)) (y:List AV),y.length=9->ys.length<1000000000->nH 9 136 (bD 9 ys) [y]=some (bD 9 (ys++[y])):=λys y h1 h=>by
  rw[dV (by simp[bN,h1]) (by simp[cR];omega)]
 cases hR:ki c.H c.sg.bO c.sg.bz c.V l with
 |ok x=>
  obtain⟨zs,X⟩:=x;intro af;refine ay (sf:=Zm) rfl rfl rfl ?_;generalize aS l=lv at *;simp[-ah,-aa,Zm];refine bf Hx.eq_1 (λx:Nat×List Sm×List Vd×List AV=>⟨[(0,.val (.ptr pre.length 0 0 0)),(1,.val lv),(5,.val (bD 9 (Sm.rows x.2.1))),(6,.val (.int .i64 x.1))],[],pre++[(c.aZ x.2.2.1).aT]⟩)
   (λx=>x.1<=l.length/\x.2.1.length=x.1/\H6 x.2.1 (ki c.H c.sg.bO c.sg.bz x.2.2.1 (l.drop x.1))=.ok (zs,X)/\pS (c.aZ x.2.2.1)/\x.2.2.1.length+Sm.cQ (l.drop x.1)<1000000000) (λx=>l.length-x.1) (0,[],c.V,[]) rfl ⟨by simp,rfl,by simp[H6,hR],hw,by simpa using dF⟩ ?_
  rintro⟨k,ys,V,b⟩ ⟨hk,hy,hp,hW,Wa⟩ ih;simp only at hk hy hp hW Wa ih;by_cases aW:k<l.length;have nK:=wk k (by omega);rw[Ao l k aW]at Wa;have hv:=hl l[k] (List.getElem_mem aW) (c.aZ V) rfl rfl hf hW (by show V.length+_<_;omega);unfold qE at hv;have Cq:xU (c.aZ V).H (c.aZ V).sg.bO (c.aZ V).sg.bz (c.aZ V).V l[k]=xU c.H c.sg.bO c.sg.bz V l[k]:=rfl;rw[Cq]at hv;rw[Gw aW]at hp;have gE:=wL aW;have mZ:=λh2=>qG aW h2;have fy:=λaf=>gz (pre:=pre) af (c.aZ V) [];rw[decide_eq_true (show (c.aZ V).fe=0 from hf)]at fy;cases hx:xU c.H c.sg.bO c.sg.bz V l[k] with
  |error a=>rw[hx]at hp;cases hp|ok x=>
   obtain⟨y,W⟩:=x;rw[hx]at hp hv;simp only at hp hv;obtain⟨w1,w2⟩:=Ed l[k] V y W hW.V hx;have ap:=lJ ys y (by omega);have dx:=λb=>ih (k+1,ys++[y],W,b) ⟨by simp only;omega,by simp[hy],hp,xI (W:=W) hw w1 (by omega),by show W.length+Sm.cQ (l.drop (k+1))<1000000000;omega⟩ (by simp only;omega);simp only at dx;have oz:(c.aZ V).aZ W=c.aZ W:=rfl;rw[oz]at hv;generalize (c.aZ V).aT=o1 at *;generalize (c.aZ W).aT=o2 at *;generalize bD 9 (Sm.rows (ys++[y]))=R at *;rw[Sm.az l[k]]at hv gE;simp only[Sm.az l[k]]at mZ;rw[Sm.az y]at hv ap;generalize l[k]=x at *;simp[-ah,-aa,aX,aW,nK,cA,dW,hz,cN,mZ,fy,hv,ap,AV.view];exact dx []
  have eK:k=l.length:=by omega
  have hh:ys=zs/\V=X:=by
   rw[eK,List.drop_length]at hp;simpa [ki,H6] using hp
  obtain⟨h1,h2⟩:=hh;subst h1 h2;simp[-ah,-aa,cA,dW,cN,aW]
 |error a=>
  intro af;obtain⟨v,bV,h1,W,h2,h3⟩:∃v bV,(bh S).call 0 af 51 [.ptr pre.length 0 0 0,aS l] (pre++[c.aT])=some (v,bV)/\∃W,aD v=true/\bV=pre++[((c.aZ W).fail a).aT]:=by
   refine iT (sf:=Zm) rfl rfl rfl ?_;generalize aS l=lv at *;simp[-ah,-aa,Zm];refine bf Hx.eq_1 (λx:Nat×List (List AV)×List Vd×CK×List AV=>⟨[(0,.val (.ptr pre.length 0 0 0)),(1,.val lv),(5,.val (bD 9 x.2.1)),(6,.val (.int .i64 x.1))],[],pre++[x.2.2.2.1.aT]⟩)
    (λx=>x.1<=l.length/\x.2.1.length=x.1/\(x.2.2.2.1=c.aZ x.2.2.1/\ki c.H c.sg.bO c.sg.bz x.2.2.1 (l.drop x.1)=.error a/\pS (c.aZ x.2.2.1)/\x.2.2.1.length+Sm.cQ (l.drop x.1)<1000000000\/x.2.2.2.1=(c.aZ x.2.2.1).fail a))
    (λx=>l.length-x.1) (0,[],c.V,c,[]) rfl ⟨by simp,rfl,.inl ⟨rfl,by simpa using hR,hw,by simpa using dF⟩⟩ ?_
   rintro⟨k,ys,V,d,b⟩ ⟨hk,hy,hp⟩ ih;simp only at hk hy hp ih;by_cases aW:k<l.length;have nK:=wk k (by omega);have gE:=wL aW;have mZ:=λh2=>qG aW h2;rcases hp with⟨hd,hp,hW,Wa⟩|hd;subst hd;rw[Ao l k aW]at Wa;have hv:=hl l[k] (List.getElem_mem aW) (c.aZ V) rfl rfl hf hW (by show V.length+_<_;omega);unfold qE at hv;have Cq:xU (c.aZ V).H (c.aZ V).sg.bO (c.aZ V).sg.bz (c.aZ V).V l[k]=xU c.H c.sg.bO c.sg.bz V l[k]:=rfl;rw[Cq]at hv;rw[Ew aW]at hp;have fy:=λaf=>gz (pre:=pre) af (c.aZ V) [];rw[decide_eq_true (show (c.aZ V).fe=0 from hf)]at fy;cases hx:xU c.H c.sg.bO c.sg.bz V l[k] with
   |error a'=>
    rw[hx]at hp hv;simp only at hp hv;cases hp;obtain⟨W,row,⟨rk,rnm,ron,rod,bz,rbd,rel,ra,LR,rfl,q1,q2,q3⟩,hv⟩:=hv (pre.length+1);have oz:(c.aZ V).aZ W=c.aZ W:=rfl;rw[oz]at hv;have ap:=Bc ys [.int .i64 rk,.str rnm,.str ron,.int .i64 rod,bz.view,rbd.view,rel.view,.int .i64 ra,.int .i64 LR] rfl (by omega);have dx:=λb=>ih (k+1,ys++[[.int .i64 rk,.str rnm,.str ron,.int .i64 rod,bz.view,rbd.view,rel.view,.int .i64 ra,.int .i64 LR]],W,(c.aZ W).fail a,b) ⟨by simp only;omega,by simp[hy],.inr rfl⟩ (by simp only;omega);simp only at dx;generalize (c.aZ V).aT=o1 at *;generalize ((c.aZ W).fail a).aT=o2 at *;generalize bD 9 (ys++[[.int .i64 rk,.str rnm,.str ron,.int .i64 rod,bz.view,rbd.view,rel.view,.int .i64 ra,.int .i64 LR]])=R at *;rw[Sm.az l[k]]at hv gE;simp only[Sm.az l[k]]at mZ;generalize l[k]=x at *;simp[-ah,-aa,aX,aW,nK,cA,dW,hz,cN,mZ,fy,hv,ap,q1,q2,q3,AV.view];exact dx []
   |ok x=>
    obtain⟨y,W⟩:=x;rw[hx]at hp hv;simp only at hp hv;obtain⟨w1,w2⟩:=Ed l[k] V y W hW.V hx;have YB:ki c.H c.sg.bO c.sg.bz W (l.drop (k+1))=.error a:=by
     split at hp;rename_i h;cases hp;exact h;cases hp
    have ap:=Bc ys y.row (by rw[Sm.az];rfl) (by omega);have dx:=λb=>ih (k+1,ys++[y.row],W,c.aZ W,b) ⟨by simp only;omega,by simp[hy],.inl ⟨rfl,YB,xI (W:=W) hw w1 (by omega),by show W.length+Sm.cQ (l.drop (k+1))<1000000000;omega⟩⟩ (by simp only;omega);simp only at dx;have oz:(c.aZ V).aZ W=c.aZ W:=rfl;rw[oz]at hv;generalize (c.aZ V).aT=o1 at *;generalize (c.aZ W).aT=o2 at *;generalize bD 9 (ys++[y.row])=R at *;rw[Sm.az l[k]]at hv gE;simp only[Sm.az l[k]]at mZ;rw[Sm.az y]at hv ap;generalize l[k]=x at *;simp[-ah,-aa,aX,aW,nK,cA,dW,hz,cN,mZ,fy,hv,ap,AV.view];exact dx []
   subst hd;have gr:=λaf=>gz (pre:=pre) af ((c.aZ V).fail a) [];rw[decide_eq_false fV]at gr;simp only[Sm.az l[k]]at mZ;rw[Sm.az l[k]]at gE;have hex:∃W,((c.aZ V).fail a).aT=((c.aZ W).fail a).aT:=⟨V,rfl⟩;generalize ((c.aZ V).fail a).aT=o2 at *;generalize l[k]=x at *;simp[-ah,-aa,aW,cA,dW,cN,gr,hex,AV.view];have eK:k=l.length:=(by omega);rcases hp with⟨hd,hp,_⟩|hd;rw[eK,List.drop_length]at hp;simp[ki]at hp;subst hd;have hex:∃W,((c.aZ V).fail a).aT=((c.aZ W).fail a).aT:=⟨V,rfl⟩;generalize ((c.aZ V).fail a).aT=o2 at *;simp[-ah,-aa,cA,dW,cN,aW,hex]
  rw[h3]at h1;exact⟨W,v,h2,h1⟩
theorem oc(s:Sm):∀c:CK,c.fe=0->pS c->c.V.length+Sm.sz s<1000000000->qE pre c s:=by
 induction s using Sm.yu with
 |_ s sW k7=>
  intro c hf hw dF;have hz:=Sm.jM s;have E4:=E.dD s.es;cases h:cI c.sg.bO s.k s.es with
  |false=>
   unfold qE;rw[nk,h];exact λaf=>⟨c.V,_,⟨_,_,_,_,_,_,_,_,_,rfl,rfl,rfl,rfl⟩,Pf c s af (by omega) h⟩
  |true=>
   have y7:∀d:CK,d.H=c.H->d.sg=c.sg->d.fe=0->pS d->d.V.length+Sm.cQ s.bd<1000000000->AJ pre d s.bd:=λd _ _ h1 h2 h3=>
    fh d s.bd h1 h2 h3 λx hx e _ _ g1 g2 g3=>sW x hx e g1 g2 g3
   have S4:∀d:CK,d.H=c.H->d.sg=c.sg->d.fe=0->pS d->d.V.length+Sm.cQ s.el<1000000000->AJ pre d s.el:=λd _ _ h1 h2 h3=>
    fh d s.el h1 h2 h3 λx hx e _ _ g1 g2 g3=>k7 x hx e g1 g2 g3
   rcases Np h with k|k|k|k|k|k|k|k|k;exact LF c s hf hw dF k h;exact LH c s hf hw dF k h;exact LI c s hf hw dF k h;exact LJ c s hf hw dF k h;exact LM c s hf hw dF k h y7 S4;exact LN c s hf hw dF k h y7;exact LO c s hf hw dF k h;exact LP c s hf hw dF k h;exact LQ c s hf hw dF k h
theorem Be(c:CK)(l:List Sm)(hf:c.fe=0)(hw:pS c)(dF:c.V.length+Sm.cQ l<1000000000):AJ pre c l:=
 fh c l hf hw dF λs _ d _ _ h1 h2 h3=>oc s d h1 h2 h3
end R9
namespace R9
open Ax Go bu V7 jG j9 K9
variable {pre:aj}
theorem LU{wl af:Nat}{c:CK}{bx:bF}:aV wl af (.load true 2 false) [.val (.ptr pre.length 0 0 12)] (pre++[c.aT]) bx=some (.val (.agg [.int .i64 c.fe,.int .i64 c.fa]),pre++[c.aT],bx):=by
 simp[CK.aT,cut,AV.view]
theorem aaT{af:Nat}{c:CK}{W:List Vd}{bx:bF}:aV 0 af (.store 1) [.val (.ptr pre.length 0 0 11),.val (bD 4 (W.map Vd.row))] (pre++[c.aT]) bx=some (.none,pre++[(c.aZ W).aT],bx):=by
 simp[CK.aT,CK.aZ,aY,AV.ai,ag]
def Bm(p:Pg)(g:Sg):CK:=⟨aG p,fW p,g,[],0,0⟩
theorem afj{wl af:Nat}{p:Pg}{g:Sg}{st:aj}{bx:bF}:aV wl af (.box 14) [.val (.agg [aA 2 ((aG p).bK.map dw),br (aG p).globals,aA 6 ((aG p).sigs.map Sg.row),.int .i64 (fW p),bD 1 (ga (aG p).rs),.str g.nm,br g.ps,.bool g.bO,.int .i64 g.bz.b,.int .i64 g.bz.r,.int .i64 g.bz.d,.U,.int .i64 0,.int .i64 0])] st bx =
  some (.val (.ptr st.length 0 0 0),st++[(Bm p g).aT],bx):=by
 have h:(Bm p g).aT=.rows 0 14 [[aA 2 ((aG p).bK.map dw),br (aG p).globals,aA 6 ((aG p).sigs.map Sg.row),.int .i64 (fW p),bD 1 (ga (aG p).rs),.str g.nm,br g.ps,.bool g.bO,.int .i64 g.bz.b,.int .i64 g.bz.r,.int .i64 g.bz.d,.U,.int .i64 0,.int .i64 0]]:=by
  simp[CK.aT,Bm,jB]
 rw[h];simp
open N7 U7 in
theorem wN(wl af:Nat)(p:Pg)(st:aj)(hg:(iY p).ok)(o9:GD.sm (iY p))(dF:∀f∈p.funcs,f.params.length+Sm.cQ f.body<1000000000) :
  (bh S).call wl af 24 [.agg p.row] st=some (mI p,st):=by
 have em:∀wl af st,(bh S).call wl af 49 [.agg p.row] st=some (yY (iY p),st):=λwl af st=>Tu wl af (iY p) st hg o9;have OP:p.aR.length<1000000000:=by have:=o9.aR;rw[og,List.length_map]at this;exact this
 have Ga:p.funcs.length<1000000000:=by have:=o9.funcs;rw[mY,List.length_map]at this;exact this
 have enm:∀wl af st,(bh S).call wl af 50 [.agg p.row] st=some (bD 1 (K9.ga (aG p).rs),st):=λwl af st=>by
  have:=Kc wl af (iY p) st hg o9.aR;rw[Ap]at this;exact this
 refine bL (sf:=s24) rfl rfl (by simp[Pg.row,AV.ai,AV.ax]) rfl (B1 p) ?_;unfold mI;unfold yY at em;cases hF:iS (iY p) with
 |some a=>
  rw[hF]at em;simp only[qi,fE,fX,Pg.row]at em ⊢;simp[-ah,-aa,s24,em,ag,AV.view,au,an]
 |none=>
  rw[hF,JZ]at em;simp only[fE,fX,Pg.row,jS]at em enm ⊢;have t1:aD (aA 2 ((aG p).bK.map dw))=true:=aL;have t2:(aA 2 ((aG p).bK.map dw)).view=aA 2 ((aG p).bK.map dw):=aJ;have t3:aD (aA 6 ((aG p).sigs.map Sg.row))=true:=aL;have t4:(aA 6 ((aG p).sigs.map Sg.row)).view=aA 6 ((aG p).sigs.map Sg.row):=aJ;have t5:bX 6 (aA 6 ((aG p).sigs.map Sg.row))=true:=gf (by simp[bN,Sg.row]);have t6:aM (aA 6 ((aG p).sigs.map Sg.row))=(aG p).sigs.map Sg.row:=aE;have r1:aD (aA 3 (p.aR.map Rc.row))=true:=aL;have r2:(aA 3 (p.aR.map Rc.row)).view=aA 3 (p.aR.map Rc.row):=aJ;have f1:aD (aA 7 (p.funcs.map Fc.row))=true:=aL;have f2:(aA 7 (p.funcs.map Fc.row)).view=aA 7 (p.funcs.map Fc.row):=aJ;have f3:bX 7 (aA 7 (p.funcs.map Fc.row))=true:=gf (by simp[bN,Fc.row]);have f4:aM (aA 7 (p.funcs.map Fc.row))=p.funcs.map Fc.row:=aE;have g1:aD (aA 4 (p.globals.map PD.cells))=true:=aL;have g2:(aA 4 (p.globals.map PD.cells)).view=aA 4 (p.globals.map PD.cells):=aJ;have gl1:aD (br (aG p).globals)=true:=dK;have gl2:(br (aG p).globals).view=br (aG p).globals:=fC;have nm1:aD (bD 1 (K9.ga (aG p).rs))=true:=bY;have WG:=λwl af g st bx=>afj (wl:=wl) (af:=af) (p:=p) (g:=g) (st:=st) (bx:=bx);have cA:(aG p).sigs.length=p.funcs.length:=by simp[aG]
  have Wd:∀g:Sg,g∈(aG p).sigs->pS ((Bm p g).aZ g.ps):=λg xY=>by
   have F7:=J0 p;have P6:(cw p).length=p.aR.length:=(by simp[cw]);have Kn:(aG p).globals.length<1000000000:=(by have:=o9.globals;rw[Eo]at this;simpa [aG,kR] using this);have hF:∀s∈(aG p).bK,s.2.length<1000000000:=λs hs=>by
    obtain⟨r,hr,rfl⟩:=List.mem_map.1 hs;have:=o9.cP (Fs r) (by rw[og];exact List.mem_map_of_mem hr);simpa [Fs,oe,kR] using this
   have hP:∀s∈(aG p).sigs,s.ps.length<1000000000:=λs hs=>by
    obtain⟨r,hr,rfl⟩:=List.mem_map.1 hs;have:=o9.params (Cp r) (by rw[mY];exact List.mem_map_of_mem hr);simpa [Cp,oe,wB,kR] using this
   refine⟨⟨hP g xY,Kn,?_,?_,hF,hP⟩,F7,(F7.sigs g xY).2⟩;show (aG p).sigs.length<_;rw[cA];exact Ga;show (cw p).length<_;rw[P6];exact OP
  generalize hHS:aA 2 ((aG p).bK.map dw)=HS at *;generalize hHG:aA 6 ((aG p).sigs.map Sg.row)=HG at *;generalize hGL:br (aG p).globals=GL at *;generalize aA 3 (p.aR.map Rc.row)=PR at *;generalize aA 7 (p.funcs.map Fc.row)=PF at *;generalize aA 4 (p.globals.map PD.cells)=PG at *;generalize bD 1 (K9.ga (aG p).rs)=NM at *;simp[-ah,-aa,s24,em,t1,t2,t3,t4,r1,r2,f1,f2,g1,g2,gl1,gl2,ag,AV.view];refine bf Rf.eq_1 (λx:Nat×List Bd×aj=>⟨[(1,.fp 0 0),(2,.fp 1 0),(3,.fp 2 0),(4,.fp 3 0),(6,.fp 5 0),(7,.val (.int .i64 x.1))],
    [[PR,PG,PF],[.U,.U,.U,.int .i64 0,.U],[.int .i64 0,.int .i64 0],[HS,GL,HG,.int .i64 (fW p)],[.int .i64 0,.int .i64 0],[HS,GL,HG,.int .i64 (fW p),bD 3 (x.2.1.map Bd.row)]],x.2.2⟩)
    (λx=>x.1<=p.funcs.length/\x.2.1.length=x.1/\H8 x.2.1 (qh (aG p) ((aG p).sigs.drop x.1) (p.funcs.drop x.1))=qh (aG p) (aG p).sigs p.funcs)
    (λx=>p.funcs.length-x.1) (0,[],[]) (by simp[jB]) ⟨by simp,rfl,by simp[H8];split<;>rename_i h<;>exact h.symm⟩ ?_
  rintro⟨k,bs,B3⟩ ⟨hk,Yl,hp⟩ ih;simp only at hk Yl hp ih;by_cases qa:k<p.funcs.length;have nj:k<(aG p).sigs.length:=by omega
  have nK:=wk k (by omega);have gF':∀h:k<(p.funcs.map Fc.row).length,(p.funcs.map Fc.row)[k]=[.str p.funcs[k].name,aA 4 (p.funcs[k].params.map PD.cells),.bool p.funcs[k].bO,.str p.funcs[k].on,.int .i64 p.funcs[k].od,aS p.funcs[k].body,.int .i64 p.funcs[k].a]:=λh=>by simp[Fc.row]
  have yx:∀h:k<((aG p).sigs.map Sg.row).length,((aG p).sigs.map Sg.row)[k]=[.str (aG p).sigs[k].nm,br (aG p).sigs[k].ps,.bool (aG p).sigs[k].bO,.int .i64 (aG p).sigs[k].bz.b,.int .i64 (aG p).sigs[k].bz.r,.int .i64 (aG p).sigs[k].bz.d]:=λh=>by simp[Sg.row]
  rw[J1 nj qa]at hp;have Qv:(aG p).sigs[k].ps.length=p.funcs[k].params.length:=by simp[aG,wB,kR]
  have XP:=List.getElem_mem nj;have hB:=Be (pre:=B3) ((Bm p (aG p).sigs[k]).aZ (aG p).sigs[k].ps) p.funcs[k].body rfl (Wd _ XP) (by
   have:=dF _ (List.getElem_mem qa);show (aG p).sigs[k].ps.length+_<_;rw[Qv];exact this)
  unfold AJ at hB;have Cq:ki ((Bm p (aG p).sigs[k]).aZ (aG p).sigs[k].ps).H ((Bm p (aG p).sigs[k]).aZ (aG p).sigs[k].ps).sg.bO ((Bm p (aG p).sigs[k]).aZ (aG p).sigs[k].ps).sg.bz ((Bm p (aG p).sigs[k]).aZ (aG p).sigs[k].ps).V p.funcs[k].body=ki (aG p) (aG p).sigs[k].bO (aG p).sigs[k].bz (aG p).sigs[k].ps p.funcs[k].body:=rfl;rw[Cq]at hB;have lJ:∀cs:List AV,cs.length=3->nH 3 56 (bD 3 (bs.map Bd.row)) [cs]=some (bD 3 (bs.map Bd.row++[cs])):=λcs hc=>dV (by simp[bN,hc]) (by simp[cR];omega);have Pp:(aG p).sigs[k].ps.length<1000000000:=(Wd _ XP).s.V;have B8:nH 4 40 .U ((aG p).sigs[k].ps.map Vd.row)=some (bD 4 ((aG p).sigs[k].ps.map Vd.row)):=by
   have:=dV (sz:=4) (bytes:=40) (r:=[]) (new:=(aG p).sigs[k].ps.map Vd.row) (by simp[bN,Vd.row]) (by simp[cR];omega);exact this
  have ep:=λaf bx=>aaT (pre:=B3) (af:=af) (c:=Bm p (aG p).sigs[k]) (W:=(aG p).sigs[k].ps) (bx:=bx);have WG:=λwl af bx=>WG wl af (aG p).sigs[k] B3 bx;have bd1:aD (aS p.funcs[k].body)=true:=bn;have bd2:(aS p.funcs[k].body).view=aS p.funcs[k].body:=aO;have ps1:aD (aA 4 (p.funcs[k].params.map PD.cells))=true:=aL;have ps2:(aA 4 (p.funcs[k].params.map PD.cells)).view=aA 4 (p.funcs[k].params.map PD.cells):=aJ;have sp1:aD (br (aG p).sigs[k].ps)=true:=dK;have sp2:(br (aG p).sigs[k].ps).view=br (aG p).sigs[k].ps:=fC;have sp3:aM (br (aG p).sigs[k].ps)=(aG p).sigs[k].ps.map Vd.row:=oV;have oz:∀W,((Bm p (aG p).sigs[k]).aZ (aG p).sigs[k].ps).aZ W=(Bm p (aG p).sigs[k]).aZ W:=λ_=>rfl;have m1:aD (bD 4 ((aG p).sigs[k].ps.map Vd.row))=true:=bY;generalize OY:(aG p).sigs.map Sg.row=RS at *;generalize hrF:p.funcs.map Fc.row=RF at *;have EB:k<RS.length:=by rw[<-OY,List.length_map];exact nj
  have LW:k<RF.length:=by rw[<-hrF,List.length_map];exact qa
  have EC:=yx EB;have S6:=gF' LW;clear yx gF';cases hR:ki (aG p) (aG p).sigs[k].bO (aG p).sigs[k].bz (aG p).sigs[k].ps p.funcs[k].body with
  |error a=>
   rw[hR]at hp hB;simp only at hp hB;obtain⟨W,v,w1,hB2⟩:=hB 0;rw[oz]at hB2;clear hB;have gr:=λaf=>gz (pre:=B3) af (((Bm p (aG p).sigs[k]).aZ W).fail a) [];rw[decide_eq_false fV]at gr;have hcf:=λwl af bx=>LU (pre:=B3) (wl:=wl) (af:=af) (c:=((Bm p (aG p).sigs[k]).aZ W).fail a) (bx:=bx);have xX:(((Bm p (aG p).sigs[k]).aZ W).fail a).fe=3/\(((Bm p (aG p).sigs[k]).aZ W).fail a).fa=a:=⟨rfl,rfl⟩;rw[xX.1,xX.2]at hcf;rw[<-hp];simp only[uN];have w2:aD v.view=true:=(by rw[jY];exact w1);have w3:v.view.view=v.view:=oK v;generalize (((Bm p (aG p).sigs[k]).aZ W).fail a).aT=o3 at *;generalize ((Bm p (aG p).sigs[k]).aZ (aG p).sigs[k].ps).aT=o2 at *;generalize (Bm p (aG p).sigs[k]).aT=o1 at *;generalize bD 4 ((aG p).sigs[k].ps.map Vd.row)=M4 at *;generalize aS p.funcs[k].body=PB at *;generalize aA 4 (p.funcs[k].params.map PD.cells)=PP at *;generalize br (aG p).sigs[k].ps=SP at *;generalize p.funcs[k]=fk at *;generalize (aG p).sigs[k]=gk at *;simp[-ah,-aa,aX,enm,WG,ep,B8,hB2,gr,hcf,f1,f2,f3,f4,t2,t4,t5,t6,gl2,r2,g2,nm1,S6,EC,EB,LW,bd2,sp1,sp2,sp3,au,an,ag,AV.view]
  |ok x=>
   obtain⟨cc,W⟩:=x;rw[hR]at hp hB;simp only at hp hB;have hB2:=λaf=>hB af;clear hB;simp only[oz]at hB2;have fy:=λaf=>gz (pre:=B3) af ((Bm p (aG p).sigs[k]).aZ W) [];rw[decide_eq_true (show ((Bm p (aG p).sigs[k]).aZ W).fe=0 from rfl)]at fy;have Iu:=λwl af bx=>Ak (pre:=B3) (wl:=wl) (af:=af) (c:=(Bm p (aG p).sigs[k]).aZ W) (r:=[]) (bx:=bx);have hvW:((Bm p (aG p).sigs[k]).aZ W).V=W:=rfl;rw[hvW]at Iu;have dx:=ih (k+1,bs++[⟨W,cc,p.funcs[k].a⟩],B3++[((Bm p (aG p).sigs[k]).aZ W).aT]) ⟨by simp only;omega,by simp[Yl],hp⟩ (by simp only;omega);simp only[List.map_append,List.map_cons,List.map_nil,Bd.row]at dx;have w1:aD (br W)=true:=dK;have w2:(br W).view=br W:=fC;have ap:=lJ [br W,aS cc,.int .i64 p.funcs[k].a] rfl;have c1:aD (bD 9 (Sm.rows cc))=true:=bY;have c2:(bD 9 (Sm.rows cc)).view=aS cc:=rfl;have c5:aD (aS cc)=true:=bn;have c6:(aS cc).view=aS cc:=aO;have n1:aD (bD 3 (bs.map Bd.row++[[br W,aS cc,.int .i64 p.funcs[k].a]]))=true:=bY;generalize br W=FW at *;generalize bD 9 (Sm.rows cc)=MC at *;generalize aS cc=SC at *;generalize ((Bm p (aG p).sigs[k]).aZ W).aT=o3 at *;generalize ((Bm p (aG p).sigs[k]).aZ (aG p).sigs[k].ps).aT=o2 at *;generalize (Bm p (aG p).sigs[k]).aT=o1 at *;generalize bD 4 ((aG p).sigs[k].ps.map Vd.row)=M4 at *;generalize aS p.funcs[k].body=PB at *;generalize aA 4 (p.funcs[k].params.map PD.cells)=PP at *;generalize br (aG p).sigs[k].ps=SP at *;generalize bD 3 (bs.map Bd.row++[[FW,SC,.int .i64 p.funcs[k].a]])=BN at *;generalize bD 3 (bs.map Bd.row)=BL at *;generalize p.funcs[k]=fk at *;generalize (aG p).sigs[k]=gk at *;simp[-ah,-aa,aX,nK,enm,WG,ep,B8,hB2,fy,Iu,ap,f1,f2,f3,f4,t2,t4,t5,t6,gl2,r2,g2,nm1,S6,EC,EB,LW,bd2,sp1,sp2,sp3,w1,w2,c1,c2,c5,n1,au,an,ag,AV.view];exact dx
  have eK:k=p.funcs.length:=by omega
  have hR:qh (aG p) (aG p).sigs p.funcs=.ok bs:=by
   rw[<-hp,eK,List.drop_length,<-cA,List.drop_length];simp[qh,H8]
  rw[hR];have n1:aD (bD 3 (bs.map Bd.row))=true:=bY;have n2:(bD 3 (bs.map Bd.row)).view=aA 3 (bs.map Bd.row):=rfl;have n4:aD (aA 3 (bs.map Bd.row))=true:=aL;simp only[uN,jS];rw[hHS,hHG,hGL];generalize bD 3 (bs.map Bd.row)=BL at *;generalize aA 3 (bs.map Bd.row)=BV at *;simp[-ah,-aa,qa,f1,f2,f4,t1,t2,t3,t4,gl1,gl2,n2,n4,ag,AV.view]
end R9
