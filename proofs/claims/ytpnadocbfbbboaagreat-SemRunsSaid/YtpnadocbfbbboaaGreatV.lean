/- Part of a proof. -/
import Derived.Test.YtpnadocbfbbboaaGreatT

open List renaming eq_nil_of_length_eq_zero->aaK,drop_length->aaC,getElem_mem->aaq,length_map->ac7,mem_map_of_mem->ags
set_option maxRecDepth 100000
set_option maxHeartbeats 8000000
namespace R9
open Ax Go bY V7 kN lZ K9
variable {pre:ay}
theorem fj{s:Sm}:aN (aT s.es)=true/\aN (bp s.bd)=true/\aN (bp s.el)=true:=⟨bz,bL,bL⟩
theorem Q1(c:CK)(s:Sm)(aa:Nat)(hn:s.es.length<1000000000)(h:de c.sg.cP s.k s.es=false) :
  (aZ S).call 0 aa 82 [.ptr pre.length 0 0 0,.agg s.aF] (pre++[c.aX])=some (.agg [.int .i64 s.k,.str [],.str [],.int .i64 0,.af,.af,.af,.int .i64 s.a,.int .i64 0],pre++[(c.fail s.a).aX]):=by
 have Q2:=λaa=>yI (pre:=pre) aa c s [] hn;have oT:=λaa=>jK (pre:=pre) aa c s.a [];rw[h]at Q2;obtain⟨e1,b1,l1⟩:=fj (s:=s);have e2:(aT s.es).ai=aT s.es:=bu;have b2:(bp s.bd).ai=bp s.bd:=bq;have l2:(bp s.el).ai=bp s.el:=bq;rw[Sm.aE]at *;generalize aT s.es=kv,bp s.bd=bv,bp s.el=lv,(c.fail s.a).aX=o2,c.aX=o at *;refine aA (sf:=oQ) rfl rfl rfl ?_;simp[-aj,-ag,oQ,Q2,oT,e1,b1,l1,e2,b2,l2,au,AV.ai]
theorem HP(c:CK)(s:Sm)(aa:Nat)(hs:qV c)(hn:s.es.length<1000000000)(h:de c.sg.cP s.k s.es=true)(ht:mW c.H s.k s.on s.od=none) :
  (aZ S).call 0 aa 82 [.ptr pre.length 0 0 0,.agg s.aF] (pre++[c.aX])=some (.agg [.int .i64 s.k,.str [],.str [],.int .i64 0,.af,.af,.af,.int .i64 s.a,.int .i64 0],pre++[(c.fail s.a).aX]):=by
 have Q2:=λaa=>yI (pre:=pre) aa c s [] hn;have oT:=λaa=>jK (pre:=pre) aa c s.a [];rw[h]at Q2;obtain⟨e1,b1,l1⟩:=fj (s:=s);have e2:(aT s.es).ai=aT s.es:=bu;have b2:(bp s.bd).ai=bp s.bd:=bq;have l2:(bp s.el).ai=bp s.el:=bq;have qv:=λwl aa st=>Jo wl aa c.H.rs s.on s.od st hs.R;have LA:=λwl aa bx=>wA (pre:=pre) (wl:=wl) (aa:=aa) (c:=c) (r:=[]) (bx:=bx);rw[Sm.aE]at *;generalize aT s.es=kv,bp s.bd=bv,bp s.el=lv,(c.fail s.a).aX=o2,c.aX=o at *;unfold mW at ht;by_cases h1:s.k=1;rw[ah (.inl h1)]at ht;have h2:(cB c.H.rs s.on s.od).2=false:=by
  cases hh:(cB c.H.rs s.on s.od).2 with
  |false=>rfl|true=>rw[hh]at ht;cases ht
 unfold Nb at qv;rw[h2]at qv;refine aA (sf:=oQ) rfl rfl rfl ?_;have h1:(s.k=1)=True:=eq_true h1;simp[-aj,-ag,oQ,Q2,oT,h1,LA,qv,e1,b1,l1,e2,b2,l2,bg,bO,au,AV.ai];by_cases h2:s.k=2;rw[ah (.inr h2)]at ht;have h3:(cB c.H.rs s.on s.od).2=false:=by
  cases hh:(cB c.H.rs s.on s.od).2 with
  |false=>rfl|true=>rw[hh]at ht;cases ht
 unfold Nb at qv;rw[h3]at qv;refine aA (sf:=oQ) rfl rfl rfl ?_;have h2:(s.k=2)=True:=eq_true h2;simp[-aj,-ag,oQ,Q2,oT,h1,h2,LA,qv,e1,b1,l1,e2,b2,l2,bg,bO,au,AV.ai];rw[U (by omega)]at ht;cases ht
def iS:bN:=g9 (g9 (g9 (g9 (g9 (g9 (g9 oQ.body))))))
variable{Q:Ex->St->Prop}
theorem Q3(c:CK)(s:Sm)(aa:Nat)(t:T3)(hs:qV c)(hn:s.es.length<1000000000)(h:de c.sg.cP s.k s.es=true)(hk:s.k=1\/s.k=2)(ht:mW c.H s.k s.on s.od=some t)
  (go:W S 0 (pre.length+1) oQ.results Q [.code (.loop sI),.jB 0,.code iS] .normal
   ⟨[(0,.val (.ptr pre.length 0 0 0)),(3,.fp 0 0),(4,.fp 1 0),(5,.fp 2 0),(6,.fp 3 0),(7,.val (.bool true)),(10,.val (.int .i64 0))],[s.aF,Z9,[.int .i64 s.k,.str [],.str s.on,.int .i64 s.od,.af,.af,.af,.int .i64 s.a,.int .i64 0],t.cells,t.cells,[]],pre++[c.aX]⟩) :
  W S (oQ.mode.wL (pre++[c.aX]).length 0) (oQ.mode.oW (pre++[c.aX]).length aa) oQ.results Q [.code oQ.body] .normal (qc oQ [.ptr pre.length 0 0 0,.agg s.aF] (pre++[c.aX])):=by
 have Q2:=λaa=>yI (pre:=pre) aa c s [] hn;rw[h]at Q2;obtain⟨e1,b1,l1⟩:=fj (s:=s);have e2:(aT s.es).ai=aT s.es:=bu;have b2:(bp s.bd).ai=bp s.bd:=bq;have l2:(bp s.el).ai=bp s.el:=bq;have qv:=λwl aa st=>Jo wl aa c.H.rs s.on s.od st hs.R;have LA:=λwl aa bx=>wA (pre:=pre) (wl:=wl) (aa:=aa) (c:=c) (r:=[]) (bx:=bx);rw[Sm.aE]at *;generalize aT s.es=kv,bp s.bd=bv,bp s.el=lv,c.aX=o at *;unfold mW at ht;rw[ah hk]at ht;split at ht;rename_i h2;cases ht;unfold Nb at qv;rw[h2]at qv;generalize (cB c.H.rs s.on s.od).1=t at *;rcases hk with h1|h1;have h1:(s.k=1)=True:=eq_true h1;simp[-aj,-ag,oQ,Q2,h1,LA,qv,e1,b1,l1,e2,b2,l2,bg,bO,au,AV.ai];exact go;have h0:¬s.k=1:=by omega
 have h1:(s.k=2)=True:=eq_true h1;simp[-aj,-ag,oQ,Q2,h0,h1,LA,qv,e1,b1,l1,e2,b2,l2,bg,bO,au,AV.ai];exact go;cases ht
theorem HQ(c:CK)(s:Sm)(aa:Nat)(hn:s.es.length<1000000000)(h:de c.sg.cP s.k s.es=true)(hk:¬(s.k=1\/s.k=2))
  (go:W S 0 (pre.length+1) oQ.results Q [.code (.loop sI),.jB 0,.code iS] .normal
   ⟨[(0,.val (.ptr pre.length 0 0 0)),(3,.fp 0 0),(4,.fp 1 0),(5,.fp 2 0),(6,.fp 3 0),(7,.val (.bool false)),(10,.val (.int .i64 0))],[s.aF,Z9,[.int .i64 s.k,.str [],.str [],.int .i64 0,.af,.af,.af,.int .i64 s.a,.int .i64 0],T0.cells,[],[]],pre++[c.aX]⟩) :
  W S (oQ.mode.wL (pre++[c.aX]).length 0) (oQ.mode.oW (pre++[c.aX]).length aa) oQ.results Q [.code oQ.body] .normal (qc oQ [.ptr pre.length 0 0 0,.agg s.aF] (pre++[c.aX])):=by
 have Q2:=λaa=>yI (pre:=pre) aa c s [] hn;rw[h]at Q2;obtain⟨e1,b1,l1⟩:=fj (s:=s);have e2:(aT s.es).ai=aT s.es:=bu;have b2:(bp s.bd).ai=bp s.bd:=bq;have l2:(bp s.el).ai=bp s.el:=bq;rw[Sm.aE]at *;generalize aT s.es=kv,bp s.bd=bv,bp s.el=lv,c.aX=o at *;have h1:¬s.k=1:=λe=>hk (.inl e);have h2:¬s.k=2:=λe=>hk (.inr e);simp[-aj,-ag,oQ,Q2,h1,h2,e1,b1,l1,e2,b2,l2,au,AV.ai];exact go
end R9
namespace R9
open Ax Go bY V7 kN lZ K9
variable {pre:ay}
def FQ(H:Hd)(cP:Bool)(cH:T3)(V:List Vd)(s:Sm)(ys:List E)(t:T3):Except Int (Sm×List Vd):=match k6 H cH V s.k s.nm ys t with
 |none=>.error s.a|some (r,W)=>if s.k=5 then
   match lB H cP cH W s.bd with
   |.error x=>.error x|.ok (b,W1)=>match lB H cP cH W1 s.el with
    |.error x=>.error x|.ok (c,W2)=>.ok (.mk s.k (cM s.k s.nm) (bQ s.k s.on) (bR s.k s.od) ys b c s.a r,W2)
  else if s.k=6 then
   match lB H cP cH W s.bd with
   |.error x=>.error x|.ok (b,W1)=>.ok (.mk s.k (cM s.k s.nm) (bQ s.k s.on) (bR s.k s.od) ys b [] s.a r,W1)
  else .ok (.mk s.k (cM s.k s.nm) (bQ s.k s.on) (bR s.k s.od) ys [] [] s.a r,W)
def TQ(pre:ay)(Q:Ex->St->Prop)(s:Sm)(ev:AV)(o:dA)(dc:Bool)(NJ:List UInt8)(NI:Int)(b3 b4:List AV):Prop:=
 W S 0 (pre.length+1) oQ.results Q [.code iS] .normal
  ⟨[(0,.val (.ptr pre.length 0 0 0)),(3,.fp 0 0),(4,.fp 1 0),(5,.fp 2 0),(6,.fp 3 0),(7,.val (.bool dc))],[s.aF,Z9,[.int .i64 s.k,.str [],.str NJ,.int .i64 NI,ev,.af,.af,.int .i64 s.a,.int .i64 0],b3,b4,[]],pre++[o]⟩
def TG(pre:ay)(c:CK)(s:Sm)(ev:AV)(o:dA)(dc:Bool)(NJ:List UInt8)(NI:Int)(b3 b4:List AV)(v:AV)(st:ay):Prop:=TQ pre (BH oQ.results .jY (pre++[c.aX]) (v,st)) s ev o dc NJ NI b3 b4
theorem NK(c:CK)(s:Sm)(a:Int)(ev:AV)(dc:Bool)(NJ:List UInt8)(NI:Int)(b3 b4:List AV)(hv:aN ev=true) :
  TG pre c s ev (c.fail a).aX dc NJ NI b3 b4 (.agg [.int .i64 s.k,.str [],.str NJ,.int .i64 NI,ev.ai,.af,.af,.int .i64 s.a,.int .i64 0]) (pre++[(c.fail a).aX]):=by
 unfold TG TQ;have yS:=gH (c:=c) (a:=a);have ij:=λaa=>iB (pre:=pre) aa (c.fail a) [];rw[cu yS]at ij;generalize (c.fail a).aX=o2 at *;have hv2:aN ev.ai=true:=by rw[kF];exact hv
 have hv3:ev.ai.ai=ev.ai:=pg ev;generalize s.aF=aF at *;simp[-aj,-ag,iS,g9,oQ,ij,hv2,au,AV.ai]
theorem p8(c:CK)(s:Sm)(hf:c.fe=0)(hw:qw c)(dM:c.V.length+Sm.sz s<1000000000)(h:de c.sg.cP s.k s.es=true)(t:T3)(ht:mW c.H s.k s.on s.od=some t)
  (xu:∀ys,uC c.H c.V s.k s.es=.ok ys->match FQ c.H c.sg.cP c.sg.cH c.V s ys t with
   |.ok (y,W)=>TG pre c s (bK 11 (E.rows ys)) c.aX (decide (s.k=1\/s.k=2)) (bQ s.k s.on) (bR s.k s.od) (if s.k=1\/s.k=2 then t.cells else T0.cells) (if s.k=1\/s.k=2 then t.cells else []) (.agg y.aF) (pre++[(c.bf W).aX])|.error a=>∃W aF,Fw aF/\TG pre c s (bK 11 (E.rows ys)) c.aX (decide (s.k=1\/s.k=2)) (bQ s.k s.on) (bR s.k s.od) (if s.k=1\/s.k=2 then t.cells else T0.cells) (if s.k=1\/s.k=2 then t.cells else []) (.agg aF) (pre++[((c.bf W).fail a).aX])):rD pre c s:=by
 have hz:=Sm.mX s;have Oo:=E.eH s.es;have jj:∀x∈s.es,Lf pre c x:=λx hx=>jq c hf hw x (by have:=E.fZ hx;omega);have lz:c.bf c.V=c:=rfl;have amk:zH c.H c.sg.cP c.sg.cH c.V s=match uC c.H c.V s.k s.es with
   |.error x=>.error x|.ok ys=>FQ c.H c.sg.cP c.sg.cH c.V s ys t:=by rw[nG,ah h,ht];rfl
 unfold rD;rw[amk];have key:∀aa (Q:Ex->St->Prop),(∀ys,uC c.H c.V s.k s.es=.ok ys->TQ pre Q s (bK 11 (E.rows ys)) c.aX (decide (s.k=1\/s.k=2)) (bQ s.k s.on) (bR s.k s.od) (if s.k=1\/s.k=2 then t.cells else T0.cells) (if s.k=1\/s.k=2 then t.cells else []))->
   (∀a ev,aN ev=true->uC c.H c.V s.k s.es=.error a->TQ pre Q s ev (c.fail a).aX (decide (s.k=1\/s.k=2)) (bQ s.k s.on) (bR s.k s.od) (if s.k=1\/s.k=2 then t.cells else T0.cells) (if s.k=1\/s.k=2 then t.cells else []))->
   W S (oQ.mode.wL (pre++[c.aX]).length 0) (oQ.mode.oW (pre++[c.aX]).length aa) oQ.results Q [.code oQ.body] .normal (qc oQ [.ptr pre.length 0 0 0,.agg s.aF] (pre++[c.aX])):=by
  intro aa Q g1 g2;unfold TQ at g1 g2;by_cases hk:s.k=1\/s.k=2;have h9:s.k≠9:=by omega
  have he9:uC c.H c.V s.k s.es=lG c.H c.V s.es:=U h9;have k1:bQ s.k s.on=s.on:=ah hk;have k2:bR s.k s.od=s.od:=ah hk;simp only[ah hk,bM hk,k1,k2,he9]at g1 g2;exact Q3 c s aa t hw.s (by omega) h hk ht (Pj c s hf (by omega) h9 jj _ _ _ _ _ _ _ _ _ _ _ _ _ rfl g1 g2);have k1:bQ s.k s.on=[]:=U hk;have k2:bR s.k s.od=0:=U hk;simp only[U hk,cu hk,k1,k2]at g1 g2;by_cases h9:s.k=9;obtain⟨e,hee⟩:∃e,s.es=[e]:=by
   rw[h9]at h;unfold de at h;rw[U (by decide),U (by decide),U (by decide),ah rfl]at h;match hh:s.es,h with
   |[e],_=>exact⟨e,rfl⟩
  have he9:uC c.H c.V s.k s.es=match zh c.H c.V e with
    |.error x=>.error x|.ok y=>.ok [y]:=by unfold uC;rw[ah h9,hee];rfl
  rw[he9]at g1 g2;exact HQ c s aa (by omega) h hk (YX c s e hf h9 hee (jj e (by rw[hee];exact List.mem_cons_self)) _ _ _ _ _ _ _ _ _ _ _ _ _ rfl
   (λy hy=>g1 [y] (by rw[hy])) (λa ev hev hy=>g2 a ev hev (by rw[hy])))
  have he9:uC c.H c.V s.k s.es=lG c.H c.V s.es:=U h9;rw[he9]at g1 g2;exact HQ c s aa (by omega) h hk (Pj c s hf (by omega) h9 jj _ _ _ _ _ _ _ _ _ _ _ _ _ rfl g1 g2)
 cases hv:uC c.H c.V s.k s.es with
 |error a=>
  simp only;intro aa;obtain⟨v,st',h1,aF,h2,h3,h4⟩:∃v st',(aZ S).call 0 aa 82 [.ptr pre.length 0 0 0,.agg s.aF] (pre++[c.aX])=some (v,st')/\∃aF,Fw aF/\v=.agg aF/\st'=pre++[(c.fail a).aX]:=by
   refine fP (sf:=oQ) rfl rfl rfl (key aa _ (λys hz=>by rw[hv]at hz;cases hz) λa' ev hev hz=>?_);rw[hv]at hz;cases hz;have hT:=NK (pre:=pre) c s a ev (decide (s.k=1\/s.k=2)) (bQ s.k s.on) (bR s.k s.od) (if s.k=1\/s.k=2 then t.cells else T0.cells) (if s.k=1\/s.k=2 then t.cells else []) hev;unfold TG TQ at hT;unfold TQ;obtain⟨x',s',g1,g2⟩:=hT;exact⟨x',s',g1,_,g2,_,⟨_,_,_,_,_,_,_,_,_,rfl,by rw[kF];exact hev,rfl,rfl⟩,rfl,rfl⟩
  subst h3 h4;exact⟨c.V,aF,h2,h1⟩
 |ok ys=>
  simp only;have xu:=xu ys hv;cases hR:FQ c.H c.sg.cP c.sg.cH c.V s ys t with
  |ok x=>
   obtain⟨y,W⟩:=x;rw[hR]at xu;simp only at xu ⊢;intro aa;exact aA (sf:=oQ) rfl rfl rfl (key aa _ (λzs hz=>by rw[hv]at hz;cases hz;exact xu) λa ev _ hz=>by rw[hv]at hz;cases hz)
  |error a=>
   rw[hR]at xu;simp only at xu ⊢;intro aa;obtain⟨W,aF,hb,xu⟩:=xu;exact⟨W,aF,hb,aA (sf:=oQ) rfl rfl rfl (key aa _ (λzs hz=>by rw[hv]at hz;cases hz;exact xu) λa ev _ hz=>by rw[hv]at hz;cases hz)⟩
end R9
namespace R9
open Ax Go bY V7 kN lZ K9
variable {pre:ay}
variable{V:List Vd}
theorem yJ{es ys:List E}{H:Hd}(h:es.length=1)(hv:lG H V es=.ok ys):∃y,ys=[y]:=by
 have:=pZ hv;match ys,this with
 |[y],_=>exact⟨y,rfl⟩|[],h'=>simp at h';omega|_::_::_,h'=>simp at h';omega
theorem YY{es ys:List E}{H:Hd}(h:es.length=2)(hv:lG H V es=.ok ys):∃y z,ys=[y,z]:=by
 have:=pZ hv;match ys,this with
 |[y,z],_=>exact⟨y,z,rfl⟩|[],h'=>simp at h';omega|[_],h'=>simp at h';omega|_::_::_::_,h'=>simp at h';omega
theorem nq(k:Int)(nm on:List UInt8)(od:Int)(es:List E)(bd el:List Sm)(a ref:Int):(Sm.mk k nm on od es bd el a ref).aF=[.int .i64 k,.str nm,.str on,.int .i64 od,aT es,bp bd,bp el,.int .i64 a,.int .i64 ref]:=Sm.aE _
theorem rL:bp []=.af:=rfl
theorem Nl(c:CK)(s:Sm)(hf:c.fe=0)(hw:qw c)(dM:c.V.length+Sm.sz s<1000000000)(hk:s.k=8)(h:de c.sg.cP s.k s.es=true):rD pre c s:=by
 refine p8 c s hf hw dM h T0 (by rw[hk];rfl) λys tf=>?_;have jj:uC c.H c.V s.k s.es=lG c.H c.V s.es:=U (by omega);rw[jj]at tf;rw[hk]at h;obtain⟨y,rfl⟩:=yJ (by simpa [de] using h) tf;have fU:=λaa=>iB (pre:=pre) aa c [];rw[bM hf]at fU;have eI:=λwl aa st=>oI wl aa st;have eT:=λwl aa st=>mD wl aa st;have oT:=λaa=>jK (pre:=pre) aa c s.a [];have eV:=λaa=>iF (pre:=pre) aa c s.nm [] hw.s;have Db:=λwl aa bx=>xS (pre:=pre) (wl:=wl) (aa:=aa) (c:=c) (r:=[]) (bx:=bx);have Jq:=λwl aa bx=>zi (pre:=pre) (wl:=wl) (aa:=aa) (c:=c) (r:=[]) (bx:=bx);obtain⟨e1,b1,l1⟩:=fj (s:=s);have b2:(bp s.bd).ai=bp s.bd:=bq;have l2:(bp s.el).ai=bp s.el:=bq;have m1:aN (bK 11 (E.rows [y]))=true:=ct;have m2:(bK 11 (E.rows [y])).ai=aT [y]:=rfl;have m3:bt (bK 11 (E.rows [y]))=[y.aF]:=rfl;have m4:cJ 11 (bK 11 (E.rows [y]))=true:=by simp[E.rows,cn,E.aE]
 have v1:aN (aT [y])=true:=bz;have v2:(aT [y]).ai=aT [y]:=bu;have v3:bt (aT [y])=[y.aF]:=rfl;have v4:cJ 11 (aT [y])=true:=gn;have lz:c.bf c.V=c:=rfl;have hp:(decide ((8:Int)=1\/(8:Int)=2))=false:=by decide
 have yR:¬((8:Int)=1\/(8:Int)=2):=by decide
 have k1:bQ 8 s.on=[]:=rfl;have k2:bR 8 s.od=0:=rfl;have hR:FQ c.H c.sg.cP c.sg.cH c.V s [y] T0=if y.ty=tI then .ok (.mk 8 [] [] 0 [y] [] [] s.a 0,c.V) else .error s.a:=by
  unfold FQ k6;simp only[hk];by_cases q:y.ty=tI;simp[rU,q,cM,bQ,bR];simp[rU,q]
 rw[hR,hk];rw[k1,k2,hp,U yR,U yR];rw[E.aE y]at m3 v3;by_cases q:y.ty=tI;rw[ah q];simp only;unfold TG TQ;rw[nq,Sm.aE s,hk,lz,rL];generalize bK 11 (E.rows [y])=M,aT [y]=yv,aT s.es=kv,bp s.bd=bv,bp s.el=lv,c.aX=o at *;simp[-aj,-ag,br,iS,g9,oQ,fU,eI,q,m2,v1,v3,v4,aD,aC,au,AV.ai];rw[U q];simp only;refine⟨c.V,[.int .i64 8,.str [],.str [],.int .i64 0,aT [y],.af,.af,.int .i64 s.a,.int .i64 0],⟨_,_,_,_,_,_,_,_,_,rfl,v1,rfl,rfl⟩,?_⟩;unfold TG TQ;rw[Sm.aE s,hk,lz];generalize bK 11 (E.rows [y])=M,aT [y]=yv,aT s.es=kv,bp s.bd=bv,bp s.el=lv,(c.fail s.a).aX=o2,c.aX=o at *;simp[-aj,-ag,br,iS,g9,oQ,fU,eI,K9.dI,q,oT,m2,v1,v3,v4,aD,aC,au,AV.ai]
theorem Nh(c:CK)(s:Sm)(hf:c.fe=0)(hw:qw c)(dM:c.V.length+Sm.sz s<1000000000)(hk:s.k=4)(h:de c.sg.cP s.k s.es=true):rD pre c s:=by
 refine p8 c s hf hw dM h T0 (by rw[hk];rfl) λys tf=>?_;have jj:uC c.H c.V s.k s.es=lG c.H c.V s.es:=U (by omega);rw[jj]at tf;rw[hk]at h;obtain⟨y,z,rfl⟩:=YY (by
  unfold de at h;rw[U (by decide),ah rfl]at h;match hh:s.es,h with
  |[_,_],_=>rfl) tf
 have fU:=λaa=>iB (pre:=pre) aa c [];rw[bM hf]at fU;have eI:=λwl aa st=>oI wl aa st;have eT:=λwl aa st=>mD wl aa st;have oT:=λaa=>jK (pre:=pre) aa c s.a [];have eV:=λaa=>iF (pre:=pre) aa c s.nm [] hw.s;have Db:=λwl aa bx=>xS (pre:=pre) (wl:=wl) (aa:=aa) (c:=c) (r:=[]) (bx:=bx);have Jq:=λwl aa bx=>zi (pre:=pre) (wl:=wl) (aa:=aa) (c:=c) (r:=[]) (bx:=bx);obtain⟨e1,b1,l1⟩:=fj (s:=s);have b2:(bp s.bd).ai=bp s.bd:=bq;have l2:(bp s.el).ai=bp s.el:=bq;have m1:aN (bK 11 (E.rows [y,z]))=true:=ct;have m2:(bK 11 (E.rows [y,z])).ai=aT [y,z]:=rfl;have m3:bt (bK 11 (E.rows [y,z]))=[y.aF,z.aF]:=rfl;have m4:cJ 11 (bK 11 (E.rows [y,z]))=true:=by simp[E.rows,cn,E.aE]
 have v1:aN (aT [y,z])=true:=bz;have v2:(aT [y,z]).ai=aT [y,z]:=bu;have v3:bt (aT [y,z])=[y.aF,z.aF]:=rfl;have v4:cJ 11 (aT [y,z])=true:=gn;have lz:c.bf c.V=c:=rfl;have hp:(decide ((4:Int)=1\/(4:Int)=2))=false:=by decide
 have yR:¬((4:Int)=1\/(4:Int)=2):=by decide
 have k1:bQ 4 s.on=[]:=rfl;have k2:bR 4 s.od=0:=rfl;have hR:FQ c.H c.sg.cP c.sg.cH c.V s [y,z] T0=if y.ty=z.ty then .ok (.mk 4 [] [] 0 [y,z] [] [] s.a 0,c.V) else .error s.a:=by
  unfold FQ k6;simp only[hk];by_cases q:y.ty=z.ty;simp[rU,CF,q,cM,bQ,bR];simp[rU,CF,q]
 rw[hR,hk];rw[k1,k2,hp,U yR,U yR];rw[E.aE y,E.aE z]at m3 v3;by_cases q:y.ty=z.ty;rw[ah q];have q:(y.ty=z.ty)=True:=eq_true q;simp only;unfold TG TQ;rw[nq,Sm.aE s,hk,lz,rL];generalize bK 11 (E.rows [y,z])=M,aT [y,z]=yv,aT s.es=kv,bp s.bd=bv,bp s.el=lv,c.aX=o at *;simp[-aj,-ag,br,iS,g9,oQ,fU,dU,q,m2,v1,v3,v4,aD,aC,au,AV.ai];rw[U q];simp only;refine⟨c.V,[.int .i64 4,.str [],.str [],.int .i64 0,aT [y,z],.af,.af,.int .i64 s.a,.int .i64 0],⟨_,_,_,_,_,_,_,_,_,rfl,v1,rfl,rfl⟩,?_⟩;unfold TG TQ;rw[Sm.aE s,hk,lz];generalize bK 11 (E.rows [y,z])=M,aT [y,z]=yv,aT s.es=kv,bp s.bd=bv,bp s.el=lv,(c.fail s.a).aX=o2,c.aX=o at *;simp[-aj,-ag,br,iS,g9,oQ,fU,dU,q,oT,m2,v1,v3,v4,aD,aC,au,AV.ai]
theorem Nm(c:CK)(s:Sm)(hf:c.fe=0)(hw:qw c)(dM:c.V.length+Sm.sz s<1000000000)(hk:s.k=9)(h:de c.sg.cP s.k s.es=true):rD pre c s:=by
 refine p8 c s hf hw dM h T0 (by rw[hk];rfl) λys tf=>?_;obtain⟨y,rfl⟩:∃y,ys=[y]:=by
  unfold uC at tf;rw[hk]at tf h;unfold de at h;rw[U (by decide),U (by decide),U (by decide),ah rfl]at h;rw[ah rfl]at tf;match hh:s.es,h with
  |[e],_=>
   rw[hh]at tf;simp only at tf;cases hx:zh c.H c.V e with
   |error a=>rw[hx]at tf;cases tf|ok y=>rw[hx]at tf;cases tf;exact⟨y,rfl⟩
 have fU:=λaa=>iB (pre:=pre) aa c [];rw[bM hf]at fU;have eI:=λwl aa st=>oI wl aa st;have eT:=λwl aa st=>mD wl aa st;have oT:=λaa=>jK (pre:=pre) aa c s.a [];have eV:=λaa=>iF (pre:=pre) aa c s.nm [] hw.s;have Db:=λwl aa bx=>xS (pre:=pre) (wl:=wl) (aa:=aa) (c:=c) (r:=[]) (bx:=bx);have Jq:=λwl aa bx=>zi (pre:=pre) (wl:=wl) (aa:=aa) (c:=c) (r:=[]) (bx:=bx);obtain⟨e1,b1,l1⟩:=fj (s:=s);have b2:(bp s.bd).ai=bp s.bd:=bq;have l2:(bp s.el).ai=bp s.el:=bq;have m1:aN (bK 11 (E.rows [y]))=true:=ct;have m2:(bK 11 (E.rows [y])).ai=aT [y]:=rfl;have m3:bt (bK 11 (E.rows [y]))=[y.aF]:=rfl;have m4:cJ 11 (bK 11 (E.rows [y]))=true:=by simp[E.rows,cn,E.aE]
 have v1:aN (aT [y])=true:=bz;have v2:(aT [y]).ai=aT [y]:=bu;have v3:bt (aT [y])=[y.aF]:=rfl;have v4:cJ 11 (aT [y])=true:=gn;have lz:c.bf c.V=c:=rfl;have hp:(decide ((9:Int)=1\/(9:Int)=2))=false:=by decide
 have yR:¬((9:Int)=1\/(9:Int)=2):=by decide
 have k1:bQ 9 s.on=[]:=rfl;have k2:bR 9 s.od=0:=rfl;have hR:FQ c.H c.sg.cP c.sg.cH c.V s [y] T0=.ok (.mk 9 [] [] 0 [y] [] [] s.a 0,c.V):=by
  unfold FQ k6;simp[hk,cM,bQ,bR]
 rw[hR,hk];rw[k1,k2,hp,U yR,U yR];rw[E.aE y]at m3 v3;simp only;unfold TG TQ;rw[nq,Sm.aE s,hk,lz,rL];generalize bK 11 (E.rows [y])=M,aT [y]=yv,aT s.es=kv,bp s.bd=bv,bp s.el=lv,c.aX=o at *;simp[-aj,-ag,iS,g9,oQ,fU,m2,v1,au,AV.ai]
theorem Ng(c:CK)(s:Sm)(hf:c.fe=0)(hw:qw c)(dM:c.V.length+Sm.sz s<1000000000)(hk:s.k=3)(h:de c.sg.cP s.k s.es=true):rD pre c s:=by
 refine p8 c s hf hw dM h T0 (by rw[hk];rfl) λys tf=>?_;have jj:uC c.H c.V s.k s.es=lG c.H c.V s.es:=U (by omega);rw[jj]at tf;rw[hk]at h;obtain⟨y,rfl⟩:=yJ (by simpa [de] using h) tf;have fU:=λaa=>iB (pre:=pre) aa c [];rw[bM hf]at fU;have eI:=λwl aa st=>oI wl aa st;have eT:=λwl aa st=>mD wl aa st;have oT:=λaa=>jK (pre:=pre) aa c s.a [];have eV:=λaa=>iF (pre:=pre) aa c s.nm [] hw.s;have Db:=λwl aa bx=>xS (pre:=pre) (wl:=wl) (aa:=aa) (c:=c) (r:=[]) (bx:=bx);have Jq:=λwl aa bx=>zi (pre:=pre) (wl:=wl) (aa:=aa) (c:=c) (r:=[]) (bx:=bx);obtain⟨e1,b1,l1⟩:=fj (s:=s);have b2:(bp s.bd).ai=bp s.bd:=bq;have l2:(bp s.el).ai=bp s.el:=bq;have m1:aN (bK 11 (E.rows [y]))=true:=ct;have m2:(bK 11 (E.rows [y])).ai=aT [y]:=rfl;have m3:bt (bK 11 (E.rows [y]))=[y.aF]:=rfl;have m4:cJ 11 (bK 11 (E.rows [y]))=true:=by simp[E.rows,cn,E.aE]
 have v1:aN (aT [y])=true:=bz;have v2:(aT [y]).ai=aT [y]:=bu;have v3:bt (aT [y])=[y.aF]:=rfl;have v4:cJ 11 (aT [y])=true:=gn;have lz:c.bf c.V=c:=rfl;have hp:(decide ((3:Int)=1\/(3:Int)=2))=false:=by decide
 have yR:¬((3:Int)=1\/(3:Int)=2):=by decide
 have k1:bQ 3 s.on=[]:=rfl;have k2:bR 3 s.od=0:=rfl;have hR:FQ c.H c.sg.cP c.sg.cH c.V s [y] T0=match uw c.H c.V s.nm with
   |some (u,r)=>if u=y.ty then .ok (.mk 3 s.nm [] 0 [y] [] [] s.a r,c.V) else .error s.a
   |none=>.error s.a:=by
  unfold FQ k6;simp only[hk];cases uw c.H c.V s.nm with
  |none=>simp|some x=>by_cases q:x.1=y.ty<;>simp[rU,q,cM,bQ,bR]
 rw[hR,hk];rw[k1,k2,hp,U yR,U yR];rw[E.aE y]at m3 v3;cases hx:uw c.H c.V s.nm with
 |none=>
  rw[hx]at eV;simp only;refine⟨c.V,[.int .i64 3,.str [],.str [],.int .i64 0,aT [y],.af,.af,.int .i64 s.a,.int .i64 0],⟨_,_,_,_,_,_,_,_,_,rfl,v1,rfl,rfl⟩,?_⟩;unfold TG TQ;rw[Sm.aE s,hk,lz];generalize bK 11 (E.rows [y])=M,aT [y]=yv,aT s.es=kv,bp s.bd=bv,bp s.el=lv,(c.fail s.a).aX=o2,c.aX=o at *;simp[-aj,-ag,iS,g9,oQ,fU,eV,oR,oT,m2,v1,aD,aC,au,AV.ai]
 |some x=>
  obtain⟨u,r⟩:=x;rw[hx]at eV;simp only;by_cases q:u=y.ty;rw[ah q];have q:(u=y.ty)=True:=eq_true q;simp only;unfold TG TQ;rw[nq,Sm.aE s,hk,lz,rL];generalize bK 11 (E.rows [y])=M,aT [y]=yv,aT s.es=kv,bp s.bd=bv,bp s.el=lv,c.aX=o at *;simp[-aj,-ag,br,iS,g9,oQ,fU,eV,oR,dU,q,m2,v1,v3,v4,aD,aC,au,AV.ai];rw[U q];simp only;refine⟨c.V,[.int .i64 3,.str [],.str [],.int .i64 0,aT [y],.af,.af,.int .i64 s.a,.int .i64 r],⟨_,_,_,_,_,_,_,_,_,rfl,v1,rfl,rfl⟩,?_⟩;unfold TG TQ;rw[Sm.aE s,hk,lz];generalize bK 11 (E.rows [y])=M,aT [y]=yv,aT s.es=kv,bp s.bd=bv,bp s.el=lv,(c.fail s.a).aX=o2,c.aX=o at *;simp[-aj,-ag,br,iS,g9,oQ,fU,eV,oR,dU,q,oT,m2,v1,v3,v4,aD,aC,au,AV.ai]
theorem YZ(c:CK)(s:Sm)(hf:c.fe=0)(hw:qw c)(dM:c.V.length+Sm.sz s<1000000000)(hk:s.k=7)(h:de c.sg.cP s.k s.es=true)(hh:c.sg.cP=true):rD pre c s:=by
 refine p8 c s hf hw dM h T0 (by rw[hk];rfl) λys tf=>?_;have jj:uC c.H c.V s.k s.es=lG c.H c.V s.es:=U (by omega);rw[jj]at tf;rw[hk]at h;obtain⟨y,rfl⟩:=yJ (by rw[hh]at h;simpa [de] using h) tf;have fU:=λaa=>iB (pre:=pre) aa c [];rw[bM hf]at fU;have eI:=λwl aa st=>oI wl aa st;have eT:=λwl aa st=>mD wl aa st;have oT:=λaa=>jK (pre:=pre) aa c s.a [];have eV:=λaa=>iF (pre:=pre) aa c s.nm [] hw.s;have Db:=λwl aa bx=>xS (pre:=pre) (wl:=wl) (aa:=aa) (c:=c) (r:=[]) (bx:=bx);have Jq:=λwl aa bx=>zi (pre:=pre) (wl:=wl) (aa:=aa) (c:=c) (r:=[]) (bx:=bx);obtain⟨e1,b1,l1⟩:=fj (s:=s);have b2:(bp s.bd).ai=bp s.bd:=bq;have l2:(bp s.el).ai=bp s.el:=bq;have m1:aN (bK 11 (E.rows [y]))=true:=ct;have m2:(bK 11 (E.rows [y])).ai=aT [y]:=rfl;have m3:bt (bK 11 (E.rows [y]))=[y.aF]:=rfl;have m4:cJ 11 (bK 11 (E.rows [y]))=true:=by simp[E.rows,cn,E.aE]
 have v1:aN (aT [y])=true:=bz;have v2:(aT [y]).ai=aT [y]:=bu;have v3:bt (aT [y])=[y.aF]:=rfl;have v4:cJ 11 (aT [y])=true:=gn;have lz:c.bf c.V=c:=rfl;have hp:(decide ((7:Int)=1\/(7:Int)=2))=false:=by decide
 have yR:¬((7:Int)=1\/(7:Int)=2):=by decide
 have k1:bQ 7 s.on=[]:=rfl;have k2:bR 7 s.od=0:=rfl;have hR:FQ c.H c.sg.cP c.sg.cH c.V s [y] T0=if y.ty=c.sg.cH then .ok (.mk 7 [] [] 0 [y] [] [] s.a 0,c.V) else .error s.a:=by
  unfold FQ k6;simp only[hk];by_cases q:y.ty=c.sg.cH;simp[rU,q,cM,bQ,bR];simp[rU,q]
 rw[hh]at Db;rw[hR,hk];rw[k1,k2,hp,U yR,U yR];rw[E.aE y]at m3 v3;by_cases q:y.ty=c.sg.cH;rw[ah q];have q:(y.ty=c.sg.cH)=True:=eq_true q;simp only;unfold TG TQ;rw[nq,Sm.aE s,hk,lz,rL];generalize bK 11 (E.rows [y])=M,aT [y]=yv,aT s.es=kv,bp s.bd=bv,bp s.el=lv,c.aX=o at *;simp[-aj,-ag,br,iS,g9,oQ,fU,Db,Jq,dU,q,m2,v1,v3,v4,aD,aC,au,AV.ai];rw[U q];simp only;refine⟨c.V,[.int .i64 7,.str [],.str [],.int .i64 0,aT [y],.af,.af,.int .i64 s.a,.int .i64 0],⟨_,_,_,_,_,_,_,_,_,rfl,v1,rfl,rfl⟩,?_⟩;unfold TG TQ;rw[Sm.aE s,hk,lz];generalize bK 11 (E.rows [y])=M,aT [y]=yv,aT s.es=kv,bp s.bd=bv,bp s.el=lv,(c.fail s.a).aX=o2,c.aX=o at *;simp[-aj,-ag,br,iS,g9,oQ,fU,Db,Jq,dU,q,oT,m2,v1,v3,v4,aD,aC,au,AV.ai]
theorem Y0(c:CK)(s:Sm)(hf:c.fe=0)(hw:qw c)(dM:c.V.length+Sm.sz s<1000000000)(hk:s.k=7)(h:de c.sg.cP s.k s.es=true)(hh:c.sg.cP=false):rD pre c s:=by
 refine p8 c s hf hw dM h T0 (by rw[hk];rfl) λys tf=>?_;have jj:uC c.H c.V s.k s.es=lG c.H c.V s.es:=U (by omega);rw[jj]at tf;rw[hk]at h;obtain rfl:ys=[]:=by
  have h0:s.es=[]:=by rw[hh]at h;simpa [de] using h
  have:=pZ tf;rw[h0]at this;exact aaK this
 have fU:=λaa=>iB (pre:=pre) aa c [];rw[bM hf]at fU;have eI:=λwl aa st=>oI wl aa st;have eT:=λwl aa st=>mD wl aa st;have oT:=λaa=>jK (pre:=pre) aa c s.a [];have eV:=λaa=>iF (pre:=pre) aa c s.nm [] hw.s;have Db:=λwl aa bx=>xS (pre:=pre) (wl:=wl) (aa:=aa) (c:=c) (r:=[]) (bx:=bx);have Jq:=λwl aa bx=>zi (pre:=pre) (wl:=wl) (aa:=aa) (c:=c) (r:=[]) (bx:=bx);obtain⟨e1,b1,l1⟩:=fj (s:=s);have b2:(bp s.bd).ai=bp s.bd:=bq;have l2:(bp s.el).ai=bp s.el:=bq;have m1:aN (bK 11 (E.rows []))=true:=ct;have m2:(bK 11 (E.rows [])).ai=aT []:=rfl;have m3:bt (bK 11 (E.rows []))=[]:=rfl;have m4:cJ 11 (bK 11 (E.rows []))=true:=by simp[E.rows,cn]
 have v1:aN (aT [])=true:=bz;have v2:(aT []).ai=aT []:=bu;have v3:bt (aT [])=[]:=rfl;have v4:cJ 11 (aT [])=true:=gn;have lz:c.bf c.V=c:=rfl;have hp:(decide ((7:Int)=1\/(7:Int)=2))=false:=by decide
 have yR:¬((7:Int)=1\/(7:Int)=2):=by decide
 have k1:bQ 7 s.on=[]:=rfl;have k2:bR 7 s.od=0:=rfl;have hR:FQ c.H c.sg.cP c.sg.cH c.V s [] T0=.ok (.mk 7 [] [] 0 [] [] [] s.a 0,c.V):=by
  unfold FQ k6;simp[hk,cM,bQ,bR]
 rw[hh]at Db;rw[hR,hk];rw[k1,k2,hp,U yR,U yR];simp only;unfold TG TQ;rw[nq,Sm.aE s,hk,lz,rL];generalize bK 11 (E.rows [])=M,aT []=yv,aT s.es=kv,bp s.bd=bv,bp s.el=lv,c.aX=o at *;simp[-aj,-ag,iS,g9,oQ,fU,Db,m2,v1,aD,aC,au,AV.ai]
theorem Nk(c:CK)(s:Sm)(hf:c.fe=0)(hw:qw c)(dM:c.V.length+Sm.sz s<1000000000)(hk:s.k=7)(h:de c.sg.cP s.k s.es=true):rD pre c s:=by
 cases hh:c.sg.cP with
 |true=>exact YZ c s hf hw dM hk h hh|false=>exact Y0 c s hf hw dM hk h hh
theorem yG(aa:Nat)(c:CK)(l:List Sm)(hf:c.fe≠0):(aZ S).call 0 aa 52 [.ptr pre.length 0 0 0,bp l] (pre++[c.aX])=some (.af,pre++[c.aX]):=by
 have cT:aN (bp l)=true:=bL;have eC:(bp l).ai=bp l:=bq;have dh:bt (bp l)=Sm.rows l:=aW;have fU:=λaa=>iB (pre:=pre) aa c [];rw[cu hf]at fU;generalize bp l=lv,c.aX=o at *;refine aA (sf:=s52) rfl rfl rfl ?_;simp[-aj,-ag,s52];rw[rj ID.eq_1];by_cases h:0<l.length;simp[-aj,-ag,cT,eC,dh,h,fU];simp[-aj,-ag,cT,eC,dh,h]
theorem Nj(c:CK)(s:Sm)(hf:c.fe=0)(hw:qw c)(dM:c.V.length+Sm.sz s<1000000000)(hk:s.k=6)(h:de c.sg.cP s.k s.es=true)(QK:∀d:CK,d.H=c.H->d.sg=c.sg->d.fe=0->qw d->d.V.length+Sm.fY s.bd<1000000000->Br pre d s.bd):rD pre c s:=by
 refine p8 c s hf hw dM h T0 (by rw[hk];rfl) λys tf=>?_;have jj:uC c.H c.V s.k s.es=lG c.H c.V s.es:=U (by omega);rw[jj]at tf;rw[hk]at h;obtain⟨y,rfl⟩:=yJ (by simpa [de] using h) tf;have fU:=λaa=>iB (pre:=pre) aa c [];rw[bM hf]at fU;have eI:=λwl aa st=>oI wl aa st;have eT:=λwl aa st=>mD wl aa st;have oT:=λaa=>jK (pre:=pre) aa c s.a [];have eV:=λaa=>iF (pre:=pre) aa c s.nm [] hw.s;have Db:=λwl aa bx=>xS (pre:=pre) (wl:=wl) (aa:=aa) (c:=c) (r:=[]) (bx:=bx);have Jq:=λwl aa bx=>zi (pre:=pre) (wl:=wl) (aa:=aa) (c:=c) (r:=[]) (bx:=bx);obtain⟨e1,b1,l1⟩:=fj (s:=s);have b2:(bp s.bd).ai=bp s.bd:=bq;have l2:(bp s.el).ai=bp s.el:=bq;have m1:aN (bK 11 (E.rows [y]))=true:=ct;have m2:(bK 11 (E.rows [y])).ai=aT [y]:=rfl;have m3:bt (bK 11 (E.rows [y]))=[y.aF]:=rfl;have m4:cJ 11 (bK 11 (E.rows [y]))=true:=by simp[E.rows,cn,E.aE]
 have v1:aN (aT [y])=true:=bz;have v2:(aT [y]).ai=aT [y]:=bu;have v3:bt (aT [y])=[y.aF]:=rfl;have v4:cJ 11 (aT [y])=true:=gn;have lz:c.bf c.V=c:=rfl;have hp:(decide ((6:Int)=1\/(6:Int)=2))=false:=by decide
 have yR:¬((6:Int)=1\/(6:Int)=2):=by decide
 have k1:bQ 6 s.on=[]:=rfl;have k2:bR 6 s.od=0:=rfl;have hR:FQ c.H c.sg.cP c.sg.cH c.V s [y] T0=if y.ty=tB then (match lB c.H c.sg.cP c.sg.cH c.V s.bd with
   |.error x=>.error x|.ok (b,W1)=>.ok (.mk 6 [] [] 0 [y] b [] s.a 0,W1)) else .error s.a:=by
  unfold FQ k6;simp only[hk];by_cases q:y.ty=tB;simp[rU,q,cM,bQ,bR]<;>rfl;simp[rU,q]
 have hz:=Sm.mX s;have hB:=QK c rfl rfl hf hw (by omega);unfold Br at hB;rw[hR,hk];rw[k1,k2,hp,U yR,U yR];rw[E.aE y]at m3 v3;by_cases q:y.ty=tB;rw[ah q];cases hb:lB c.H c.sg.cP c.sg.cH c.V s.bd with
 |error a=>
  rw[hb]at hB;simp only at hB ⊢;obtain⟨W,v,w1,hB⟩:=hB (pre.length+1);have w2:aN v.ai=true:=by rw[kF];exact w1
  have w3:v.ai.ai=v.ai:=pg v;refine⟨W,[.int .i64 6,.str [],.str [],.int .i64 0,aT [y],v.ai,.af,.int .i64 s.a,.int .i64 0],⟨_,_,_,_,_,_,_,_,_,rfl,v1,w2,rfl⟩,?_⟩;unfold TG TQ;rw[Sm.aE s,hk];generalize bK 11 (E.rows [y])=M,aT [y]=yv,aT s.es=kv,bp s.bd=bv,bp s.el=lv,((c.bf W).fail a).aX=o2,c.aX=o at *;simp[-aj,-ag,br,iS,g9,oQ,fU,eT,q,hB,w1,w2,m2,v1,v3,v4,b2,aD,aC,au,AV.ai]
 |ok x=>
  obtain⟨b,W1⟩:=x;rw[hb]at hB;simp only at hB ⊢;unfold TG TQ;rw[nq,Sm.aE s,hk,rL];have w1:aN (bK 9 (Sm.rows b))=true:=ct;have w2:(bK 9 (Sm.rows b)).ai=bp b:=rfl;have w3:aN (bp b)=true:=bL;have w4:(bp b).ai=bp b:=bq;generalize bK 9 (Sm.rows b)=BM,bp b=BV,bK 11 (E.rows [y])=M,aT [y]=yv,aT s.es=kv,bp s.bd=bv,bp s.el=lv,(c.bf W1).aX=o2,c.aX=o at *;simp[-aj,-ag,br,iS,g9,oQ,fU,eT,q,hB,w1,w2,w3,m2,v1,v3,v4,b2,aD,aC,au,AV.ai]
 rw[U q];simp only;refine⟨c.V,[.int .i64 6,.str [],.str [],.int .i64 0,aT [y],.af,.af,.int .i64 s.a,.int .i64 0],⟨_,_,_,_,_,_,_,_,_,rfl,v1,rfl,rfl⟩,?_⟩;unfold TG TQ;rw[Sm.aE s,hk,lz];generalize bK 11 (E.rows [y])=M,aT [y]=yv,aT s.es=kv,bp s.bd=bv,bp s.el=lv,(c.fail s.a).aX=o2,c.aX=o at *;simp[-aj,-ag,br,iS,g9,oQ,fU,eT,dB,q,oT,m2,v1,v3,v4,aD,aC,au,AV.ai]
theorem Ni(c:CK)(s:Sm)(hf:c.fe=0)(hw:qw c)(dM:c.V.length+Sm.sz s<1000000000)(hk:s.k=5)(h:de c.sg.cP s.k s.es=true)(QK:∀d:CK,d.H=c.H->d.sg=c.sg->d.fe=0->qw d->d.V.length+Sm.fY s.bd<1000000000->Br pre d s.bd)(hbe:∀d:CK,d.H=c.H->d.sg=c.sg->d.fe=0->qw d->d.V.length+Sm.fY s.el<1000000000->Br pre d s.el):rD pre c s:=by
 refine p8 c s hf hw dM h T0 (by rw[hk];rfl) λys tf=>?_;have jj:uC c.H c.V s.k s.es=lG c.H c.V s.es:=U (by omega);rw[jj]at tf;rw[hk]at h;obtain⟨y,rfl⟩:=yJ (by simpa [de] using h) tf;have fU:=λaa=>iB (pre:=pre) aa c [];rw[bM hf]at fU;have eI:=λwl aa st=>oI wl aa st;have eT:=λwl aa st=>mD wl aa st;have oT:=λaa=>jK (pre:=pre) aa c s.a [];have eV:=λaa=>iF (pre:=pre) aa c s.nm [] hw.s;have Db:=λwl aa bx=>xS (pre:=pre) (wl:=wl) (aa:=aa) (c:=c) (r:=[]) (bx:=bx);have Jq:=λwl aa bx=>zi (pre:=pre) (wl:=wl) (aa:=aa) (c:=c) (r:=[]) (bx:=bx);obtain⟨e1,b1,l1⟩:=fj (s:=s);have b2:(bp s.bd).ai=bp s.bd:=bq;have l2:(bp s.el).ai=bp s.el:=bq;have m1:aN (bK 11 (E.rows [y]))=true:=ct;have m2:(bK 11 (E.rows [y])).ai=aT [y]:=rfl;have m3:bt (bK 11 (E.rows [y]))=[y.aF]:=rfl;have m4:cJ 11 (bK 11 (E.rows [y]))=true:=by simp[E.rows,cn,E.aE]
 have v1:aN (aT [y])=true:=bz;have v2:(aT [y]).ai=aT [y]:=bu;have v3:bt (aT [y])=[y.aF]:=rfl;have v4:cJ 11 (aT [y])=true:=gn;have lz:c.bf c.V=c:=rfl;have hp:(decide ((5:Int)=1\/(5:Int)=2))=false:=by decide
 have yR:¬((5:Int)=1\/(5:Int)=2):=by decide
 have k1:bQ 5 s.on=[]:=rfl;have k2:bR 5 s.od=0:=rfl;have hR:FQ c.H c.sg.cP c.sg.cH c.V s [y] T0=if y.ty=tB then (match lB c.H c.sg.cP c.sg.cH c.V s.bd with
   |.error x=>.error x|.ok (b,W1)=>match lB c.H c.sg.cP c.sg.cH W1 s.el with
    |.error x=>.error x|.ok (d,W2)=>.ok (.mk 5 [] [] 0 [y] b d s.a 0,W2)) else .error s.a:=by
  unfold FQ k6;simp only[hk];by_cases q:y.ty=tB;simp[rU,q,cM,bQ,bR]<;>rfl;simp[rU,q]
 have hz:=Sm.mX s;have hB:=QK c rfl rfl hf hw (by omega);unfold Br at hB;rw[hR,hk];rw[k1,k2,hp,U yR,U yR];rw[E.aE y]at m3 v3;by_cases q:y.ty=tB;rw[ah q];cases hb:lB c.H c.sg.cP c.sg.cH c.V s.bd with
 |error a=>
  rw[hb]at hB;simp only at hB ⊢;obtain⟨W,v,w1,hB⟩:=hB (pre.length+1);have w2:aN v.ai=true:=by rw[kF];exact w1
  have w3:v.ai.ai=v.ai:=pg v;have hF:=λaa=>yG (pre:=pre) aa ((c.bf W).fail a) s.el gH;refine⟨W,[.int .i64 5,.str [],.str [],.int .i64 0,aT [y],v.ai,.af,.int .i64 s.a,.int .i64 0],⟨_,_,_,_,_,_,_,_,_,rfl,v1,w2,rfl⟩,?_⟩;unfold TG TQ;rw[Sm.aE s,hk];generalize bK 11 (E.rows [y])=M,aT [y]=yv,aT s.es=kv,bp s.bd=bv,bp s.el=lv,((c.bf W).fail a).aX=o2,c.aX=o at *;simp[-aj,-ag,br,iS,g9,oQ,fU,eT,q,hB,hF,w1,w2,m2,v1,v3,v4,b2,l2,aD,aC,au,AV.ai]
 |ok x=>
  obtain⟨b,W1⟩:=x;rw[hb]at hB;simp only at hB ⊢;obtain⟨g1,g2⟩:=M3 hw.V hb;have hL:=hbe (c.bf W1) rfl rfl hf (yF hw g1 (by omega)) (by show W1.length+_<_;omega);unfold Br at hL;have I9:lB (c.bf W1).H (c.bf W1).sg.cP (c.bf W1).sg.cH (c.bf W1).V s.el=lB c.H c.sg.cP c.sg.cH W1 s.el:=rfl;rw[I9]at hL;have w1:aN (bK 9 (Sm.rows b))=true:=ct;have w2:(bK 9 (Sm.rows b)).ai=bp b:=rfl;have w3:aN (bp b)=true:=bL;have w4:(bp b).ai=bp b:=bq;cases hc:lB c.H c.sg.cP c.sg.cH W1 s.el with
  |error a=>
   rw[hc]at hL;simp only at hL ⊢;obtain⟨W,v,u1,hL⟩:=hL (pre.length+1);have u2:aN v.ai=true:=(by rw[kF];exact u1);have u3:v.ai.ai=v.ai:=pg v;have oF:(c.bf W1).bf W=c.bf W:=rfl;rw[oF]at hL;refine⟨W,[.int .i64 5,.str [],.str [],.int .i64 0,aT [y],bp b,v.ai,.int .i64 s.a,.int .i64 0],⟨_,_,_,_,_,_,_,_,_,rfl,v1,w3,u2⟩,?_⟩;unfold TG TQ;rw[Sm.aE s,hk];generalize bK 9 (Sm.rows b)=BM,bp b=BV,bK 11 (E.rows [y])=M,aT [y]=yv,aT s.es=kv,bp s.bd=bv,bp s.el=lv,(c.bf W1).aX=o2,((c.bf W).fail a).aX=o3,c.aX=o at *;simp[-aj,-ag,br,iS,g9,oQ,fU,eT,q,hB,hL,w1,w2,w3,u1,u2,m2,v1,v3,v4,b2,l2,aD,aC,au,AV.ai]
  |ok x=>
   obtain⟨d,W2⟩:=x;rw[hc]at hL;simp only at hL ⊢;have oF:(c.bf W1).bf W2=c.bf W2:=rfl;rw[oF]at hL;have u1:aN (bK 9 (Sm.rows d))=true:=ct;have u2:(bK 9 (Sm.rows d)).ai=bp d:=rfl;have u3:aN (bp d)=true:=bL;have u4:(bp d).ai=bp d:=bq;unfold TG TQ;rw[nq,Sm.aE s,hk];generalize bK 9 (Sm.rows b)=BM,bp b=BV,bK 9 (Sm.rows d)=DM,bp d=DV,bK 11 (E.rows [y])=M,aT [y]=yv,aT s.es=kv,bp s.bd=bv,bp s.el=lv,(c.bf W1).aX=o2,(c.bf W2).aX=o3,c.aX=o at *;simp[-aj,-ag,br,iS,g9,oQ,fU,eT,q,hB,hL,w1,w2,w3,u1,u2,u3,m2,v1,v3,v4,b2,l2,aD,aC,au,AV.ai]
 rw[U q];simp only;refine⟨c.V,[.int .i64 5,.str [],.str [],.int .i64 0,aT [y],.af,.af,.int .i64 s.a,.int .i64 0],⟨_,_,_,_,_,_,_,_,_,rfl,v1,rfl,rfl⟩,?_⟩;unfold TG TQ;rw[Sm.aE s,hk,lz];generalize bK 11 (E.rows [y])=M,aT [y]=yv,aT s.es=kv,bp s.bd=bv,bp s.el=lv,(c.fail s.a).aX=o2,c.aX=o at *;simp[-aj,-ag,br,iS,g9,oQ,fU,eT,dB,q,oT,m2,v1,v3,v4,aD,aC,au,AV.ai]
end R9
namespace R9
open Ax Go bY V7 kN lZ K9
variable {pre:ay}
theorem ta(c:CK)(s:Sm)(aa:Nat)(g:Bool)(hn:c.V.length<1000000000){rs:List iW}{Q:Ex->St->Prop}{kk:List th}(bs:List (List AV))(aF:List AV)(dJ:aF=s.aF)
  (F7:W S 0 aa rs Q kk .normal ⟨[(0,.val (.ptr pre.length 0 0 0)),(3,.fp 0 0),(4,.fp 1 0),(5,.fp 2 0),(6,.fp 3 0),(7,.val (.bool true)),(11,.val (.bool (g&&(fN s.nm 0 c.V).isNone)))],aF::bs,pre++[c.aX]⟩) :
  W S 0 aa rs Q (.code (.loop MK)::.jB 3::kk) .normal ⟨[(0,.val (.ptr pre.length 0 0 0)),(3,.fp 0 0),(4,.fp 1 0),(5,.fp 2 0),(6,.fp 3 0),(7,.val (.bool true)),(11,.val (.bool g)),(15,.val (.int .i64 0))],aF::bs,pre++[c.aX]⟩:=by
 subst dJ;rw[Sm.aE]at *;have hzV:cJ 4 (bP c.V)=true:=rW;have NF:aN (bP c.V)=true:=dn;have Rt:bt (bP c.V)=c.V.map Vd.aF:=pL;have JE:=λwl aa bx=>AY (pre:=pre) (wl:=wl) (aa:=aa) (c:=c) (r:=[]) (bx:=bx);generalize bP c.V=VV,c.aX=o at *;refine bH MK.eq_1 (λx:Nat×Bool=>⟨[(0,.val (.ptr pre.length 0 0 0)),(3,.fp 0 0),(4,.fp 1 0),(5,.fp 2 0),(6,.fp 3 0),(7,.val (.bool true)),(11,.val (.bool x.2)),(15,.val (.int .i64 x.1))],[.int .i64 s.k,.str s.nm,.str s.on,.int .i64 s.od,aT s.es,bp s.bd,bp s.el,.int .i64 s.a,.int .i64 s.ref]::bs,pre++[o]⟩)
  (λx=>x.1<=c.V.length/\(g&&(fN s.nm 0 c.V).isNone)=(x.2&&(fN s.nm x.1 (c.V.drop x.1)).isNone)) (λx=>c.V.length-x.1) (0,g) rfl ⟨by simp,by simp⟩ ?_
 rintro⟨k,b⟩ ⟨hk,hp⟩ ih;simp only at hk hp ih;by_cases bC:k<c.V.length;have hw:=wk k (by omega);rw[u5 bC]at hp;cases b with
 |false=>
  have fD:=ih (k+1,false) ⟨by simp only;omega,by rw[hp];rfl⟩ (by simp only;omega);simp[-aj,-ag,JE,NF,Rt,bC,hw,aD,aC];exact fD
 |true=>
  by_cases e:c.V[k].nm=s.nm;rw[ah e]at hp;have fD:=ih (k+1,false) ⟨by simp only;omega,by rw[hp];rfl⟩ (by simp only;omega);simp[-aj,-ag,br,JE,NF,hzV,Rt,bC,hw,e,Vd.aF,aD,aC];exact fD;rw[U e]at hp;have fD:=ih (k+1,true) ⟨by simp only;omega,hp⟩ (by simp only;omega);simp[-aj,-ag,br,JE,NF,hzV,Rt,bC,hw,e,Vd.aF,aD,aC];exact fD
 have fR:k=c.V.length:=by omega
 have:b=(g&&(fN s.nm 0 c.V).isNone):=by rw[hp,fR,aaC];simp[fN]
 rw[<-this]at F7;simp[-aj,-ag,JE,NF,Rt,bC];exact F7
theorem ahG(c:CK)(s:List UInt8)(t:T3)(hn:c.V.length<1000000000):oP 4 40 (bK 4 (c.V.map Vd.aF)) [[.str s,.int .i64 t.b,.int .i64 t.r,.int .i64 t.d]]=some (bK 4 ((c.V++[(⟨s,t⟩:Vd)]).map Vd.aF)):=by
 have lW:=eO (sz:=4) (bytes:=40) (r:=c.V.map Vd.aF) (new:=[[.str s,.int .i64 t.b,.int .i64 t.r,.int .i64 t.d]]) (by simp[cn]) (by simp[cN];omega);have X3:c.V.map Vd.aF++[[.str s,.int .i64 t.b,.int .i64 t.r,.int .i64 t.d]]=(c.V++[(⟨s,t⟩:Vd)]).map Vd.aF:=by simp[Vd.aF]
 rw[X3]at lW;exact lW
theorem Nd(c:CK)(s:Sm)(hf:c.fe=0)(hw:qw c)(dM:c.V.length+Sm.sz s<1000000000)(hk:s.k=1)(h:de c.sg.cP s.k s.es=true):rD pre c s:=by
 cases ht:mW c.H s.k s.on s.od with
 |none=>
  have hz:=Sm.mX s;have Oo:=E.eH s.es;unfold rD;rw[nG,ah h,ht];simp only;exact λaa=>⟨c.V,_,⟨_,_,_,_,_,_,_,_,_,rfl,rfl,rfl,rfl⟩,HP c s aa hw.s (by omega) h ht⟩
 |some t=>
  refine p8 c s hf hw dM h t ht λys tf=>?_;have jj:uC c.H c.V s.k s.es=lG c.H c.V s.es:=U (by omega);rw[jj]at tf;rw[hk]at h;obtain rfl:ys=[]:=by
   have h0:s.es.length=0:=(by simpa [de] using h);have:=pZ tf;exact aaK (by omega)
  have hVn:=hw.s.V;have fU:=λaa=>iB (pre:=pre) aa c [];rw[bM hf]at fU;have oT:=λaa=>jK (pre:=pre) aa c s.a [];have JE:=λwl aa bx=>AY (pre:=pre) (wl:=wl) (aa:=aa) (c:=c) (r:=[]) (bx:=bx);have et:=λaa bx=>I7 (pre:=pre) (aa:=aa) (c:=c) (bx:=bx);have ep:=λaa bx=>OZ (pre:=pre) (aa:=aa) (c:=c) (w:=(bK 4 (c.V.map Vd.aF)).jX) (W:=c.V++[(⟨s.nm,t⟩:Vd)]) (bx:=bx);have lW:=ahG c s.nm t hVn;obtain⟨e1,b1,l1⟩:=fj (s:=s);have m0:bK 11 (E.rows [])=.af:=rfl;have NF:aN (bP c.V)=true:=dn;have Rt:(bt (bP c.V)).length=c.V.length:=by simp
  have lz:c.bf c.V=c:=rfl;have hp:(decide ((1:Int)=1\/(1:Int)=2))=true:=by decide
  have yR:((1:Int)=1\/(1:Int)=2):=by decide
  have k1:bQ 1 s.on=s.on:=rfl;have k2:bR 1 s.od=s.od:=rfl;have hwn:IntKind.i64.wrap (c.V.length:Int)=c.V.length:=by rw[eR]<;>omega
  have hR:FQ c.H c.sg.cP c.sg.cH c.V s [] t=match fN s.nm 0 c.V with
    |some _=>.error s.a|none=>.ok (.mk 1 s.nm s.on s.od [] [] [] s.a c.V.length,c.V++[⟨s.nm,t⟩]):=by
   unfold FQ k6;simp only[hk];cases fN s.nm 0 c.V<;>simp[cM,bQ,bR]
  rw[hR,hk];rw[k1,k2,hp,ah yR,ah yR,m0];cases hx:fN s.nm 0 c.V with
  |some x=>
   simp only;refine⟨c.V,[.int .i64 1,.str [],.str s.on,.int .i64 s.od,.af,.af,.af,.int .i64 s.a,.int .i64 c.V.length],⟨_,_,_,_,_,_,_,_,_,rfl,rfl,rfl,rfl⟩,?_⟩;unfold TG TQ;have tY:=fun {Q:Ex->St->Prop} {rs:List iW} {kk:List th} bs aa=>ta (pre:=pre) c s aa true hVn (rs:=rs) (Q:=Q) (kk:=kk) bs _ rfl;rw[hx]at tY;rw[Sm.aE s,hk,lz]at *;generalize aT s.es=kv,bp s.bd=bv,bp s.el=lv,(c.fail s.a).aX=o2,c.aX=o at *;simp[-aj,-ag,iS,g9,oQ,fU,AV.ai];refine tY _ _ ?_;simp[-aj,-ag,JE,NF,oT,au,AV.ai]
  |none=>
   simp only;unfold TG TQ;have tY:=fun {Q:Ex->St->Prop} {rs:List iW} {kk:List th} bs aa=>ta (pre:=pre) c s aa true hVn (rs:=rs) (Q:=Q) (kk:=kk) bs _ rfl;rw[hx]at tY;have uh:({ c with V:=c.V++[(⟨s.nm,t⟩:Vd)] }:CK)=c.bf (c.V++[⟨s.nm,t⟩]):=rfl;rw[uh]at ep;rw[nq,rL];rw[Sm.aE s,hk]at *;have q1:aT []=.af:=rfl;rw[q1];generalize bP c.V=FV,(c.bf (c.V++[⟨s.nm,t⟩])).aX=o2,bK 4 ((c.V++[(⟨s.nm,t⟩:Vd)]).map Vd.aF)=M2,c.Fs (bK 4 (c.V.map Vd.aF)).jX=o3 at *;generalize bK 4 (c.V.map Vd.aF)=M1,aT s.es=kv,bp s.bd=bv,bp s.el=lv,c.aX=o at *;simp[-aj,-ag,iS,g9,oQ,fU,AV.ai];refine tY _ _ ?_;simp[-aj,-ag,JE,et,ep,lW,NF,Rt,aD,aC,au,AV.ai]
theorem Nf(c:CK)(s:Sm)(hf:c.fe=0)(hw:qw c)(dM:c.V.length+Sm.sz s<1000000000)(hk:s.k=2)(h:de c.sg.cP s.k s.es=true):rD pre c s:=by
 cases ht:mW c.H s.k s.on s.od with
 |none=>
  have hz:=Sm.mX s;have Oo:=E.eH s.es;unfold rD;rw[nG,ah h,ht];simp only;exact λaa=>⟨c.V,_,⟨_,_,_,_,_,_,_,_,_,rfl,rfl,rfl,rfl⟩,HP c s aa hw.s (by omega) h ht⟩
 |some t=>
  refine p8 c s hf hw dM h t ht λys tf=>?_;have jj:uC c.H c.V s.k s.es=lG c.H c.V s.es:=U (by omega);rw[jj]at tf;rw[hk]at h;obtain⟨y,rfl⟩:=yJ (by simpa [de] using h) tf;have m1:aN (bK 11 (E.rows [y]))=true:=ct;have m2:(bK 11 (E.rows [y])).ai=aT [y]:=rfl;have m3:bt (bK 11 (E.rows [y]))=[y.aF]:=rfl;have m4:cJ 11 (bK 11 (E.rows [y]))=true:=by simp[E.rows,cn,E.aE]
  have v1:aN (aT [y])=true:=bz;have v2:(aT [y]).ai=aT [y]:=bu;have v3:bt (aT [y])=[y.aF]:=rfl;have v4:cJ 11 (aT [y])=true:=gn;rw[E.aE y]at m3 v3;have hVn:=hw.s.V;have fU:=λaa=>iB (pre:=pre) aa c [];rw[bM hf]at fU;have oT:=λaa=>jK (pre:=pre) aa c s.a [];have JE:=λwl aa bx=>AY (pre:=pre) (wl:=wl) (aa:=aa) (c:=c) (r:=[]) (bx:=bx);have et:=λaa bx=>I7 (pre:=pre) (aa:=aa) (c:=c) (bx:=bx);have ep:=λaa bx=>OZ (pre:=pre) (aa:=aa) (c:=c) (w:=(bK 4 (c.V.map Vd.aF)).jX) (W:=c.V++[(⟨s.nm,t⟩:Vd)]) (bx:=bx);have lW:=ahG c s.nm t hVn;obtain⟨e1,b1,l1⟩:=fj (s:=s);have NF:aN (bP c.V)=true:=dn;have Rt:(bt (bP c.V)).length=c.V.length:=by simp
  have lz:c.bf c.V=c:=rfl;have hp:(decide ((2:Int)=1\/(2:Int)=2))=true:=by decide
  have yR:((2:Int)=1\/(2:Int)=2):=by decide
  have k1:bQ 2 s.on=s.on:=rfl;have k2:bR 2 s.od=s.od:=rfl;have hwn:IntKind.i64.wrap (c.V.length:Int)=c.V.length:=by rw[eR]<;>omega
  have hR:FQ c.H c.sg.cP c.sg.cH c.V s [y] t=if y.ty=t then (match fN s.nm 0 c.V with
    |some _=>.error s.a|none=>.ok (.mk 2 s.nm s.on s.od [y] [] [] s.a c.V.length,c.V++[⟨s.nm,t⟩])) else .error s.a:=by
   unfold FQ k6;simp only[hk];by_cases q:y.ty=t;cases fN s.nm 0 c.V<;>simp[rU,q,cM,bQ,bR];simp[rU,q]
  rw[hR,hk];rw[k1,k2,hp,ah yR,ah yR];by_cases q:y.ty=t;rw[ah q];have q:(y.ty=t)=True:=eq_true q;cases hx:fN s.nm 0 c.V with
  |some x=>
   simp only;refine⟨c.V,[.int .i64 2,.str [],.str s.on,.int .i64 s.od,aT [y],.af,.af,.int .i64 s.a,.int .i64 c.V.length],⟨_,_,_,_,_,_,_,_,_,rfl,v1,rfl,rfl⟩,?_⟩;unfold TG TQ;have tY:=fun {Q:Ex->St->Prop} {rs:List iW} {kk:List th} bs aa=>ta (pre:=pre) c s aa true hVn (rs:=rs) (Q:=Q) (kk:=kk) bs _ rfl;rw[hx]at tY;rw[Sm.aE s,hk,lz]at *;generalize bK 11 (E.rows [y])=M,aT [y]=yv,aT s.es=kv,bp s.bd=bv,bp s.el=lv,(c.fail s.a).aX=o2,c.aX=o at *;simp[-aj,-ag,br,iS,g9,oQ,fU,m2,v3,v4,dU,q,aD,aC,AV.ai];refine tY _ _ ?_;simp[-aj,-ag,JE,NF,oT,m2,v1,au,AV.ai]
  |none=>
   simp only;unfold TG TQ;have tY:=fun {Q:Ex->St->Prop} {rs:List iW} {kk:List th} bs aa=>ta (pre:=pre) c s aa true hVn (rs:=rs) (Q:=Q) (kk:=kk) bs _ rfl;rw[hx]at tY;have uh:({ c with V:=c.V++[(⟨s.nm,t⟩:Vd)] }:CK)=c.bf (c.V++[⟨s.nm,t⟩]):=rfl;rw[uh]at ep;rw[nq,rL];rw[Sm.aE s,hk]at *;generalize bP c.V=FV,(c.bf (c.V++[⟨s.nm,t⟩])).aX=o2,bK 4 ((c.V++[(⟨s.nm,t⟩:Vd)]).map Vd.aF)=M2,c.Fs (bK 4 (c.V.map Vd.aF)).jX=o3 at *;generalize bK 4 (c.V.map Vd.aF)=M1,bK 11 (E.rows [y])=M,aT [y]=yv,aT s.es=kv,bp s.bd=bv,bp s.el=lv,c.aX=o at *;simp[-aj,-ag,br,iS,g9,oQ,fU,m2,v3,v4,dU,q,aD,aC,AV.ai];refine tY _ _ ?_;simp[-aj,-ag,JE,et,ep,lW,NF,Rt,m2,v1,aD,aC,au,AV.ai]
  rw[U q];simp only;refine⟨c.V,[.int .i64 2,.str [],.str s.on,.int .i64 s.od,aT [y],.af,.af,.int .i64 s.a,.int .i64 c.V.length],⟨_,_,_,_,_,_,_,_,_,rfl,v1,rfl,rfl⟩,?_⟩;unfold TG TQ;have tY:=fun {Q:Ex->St->Prop} {rs:List iW} {kk:List th} bs aa=>ta (pre:=pre) c s aa false hVn (rs:=rs) (Q:=Q) (kk:=kk) bs _ rfl;rw[Bool.false_and]at tY;rw[Sm.aE s,hk,lz]at *;generalize bK 11 (E.rows [y])=M,aT [y]=yv,aT s.es=kv,bp s.bd=bv,bp s.el=lv,(c.fail s.a).aX=o2,c.aX=o at *;simp[-aj,-ag,br,iS,g9,oQ,fU,m2,v3,v4,dU,q,aD,aC,AV.ai];refine tY _ _ ?_;simp[-aj,-ag,JE,NF,oT,m2,v1,au,AV.ai]
end R9
namespace R9
open Ax Go bY V7 kN lZ K9
variable {pre:ay}
theorem iL(c:CK)(l:List Sm)(hf:c.fe=0)(hw:qw c)(dM:c.V.length+Sm.fY l<1000000000)
  (hl:∀s∈l,∀d:CK,d.H=c.H->d.sg=c.sg->d.fe=0->qw d->d.V.length+Sm.sz s<1000000000->rD pre d s):Br pre c l:=by
 unfold Br;have hz:cJ 9 (bp l)=true:=wz;have cT:aN (bp l)=true:=bL;have eC:(bp l).ai=bp l:=bq;have dh:bt (bp l)=Sm.rows l:=aW;have hlen:=Sm.eH l;have lW:∀(ys:List Sm) (y:Sm),ys.length<1000000000->oP 9 136 (bK 9 (Sm.rows ys)) [y.aF]=some (bK 9 (Sm.rows (ys++[y]))):=λys y h=>by
  rw[eO (by simp[cn,Sm.aE]) (by simp[cN];omega)];simp[kV]
 have B2:∀(ys:List (List AV)) (y:List AV),y.length=9->ys.length<1000000000->oP 9 136 (bK 9 ys) [y]=some (bK 9 (ys++[y])):=λys y h1 h=>by
  rw[eO (by simp[cn,h1]) (by simp[cN];omega)]
 cases hR:lB c.H c.sg.cP c.sg.cH c.V l with
 |ok x=>
  obtain⟨zs,X⟩:=x;intro aa;refine aA (sf:=s52) rfl rfl rfl ?_;generalize bp l=lv at *;simp[-aj,-ag,s52];refine bH ID.eq_1 (λx:Nat×List Sm×List Vd×List AV=>⟨[(0,.val (.ptr pre.length 0 0 0)),(1,.val lv),(5,.val (bK 9 (Sm.rows x.2.1))),(6,.val (.int .i64 x.1))],[],pre++[(c.bf x.2.2.1).aX]⟩)
   (λx=>x.1<=l.length/\x.2.1.length=x.1/\Ja x.2.1 (lB c.H c.sg.cP c.sg.cH x.2.2.1 (l.drop x.1))=.ok (zs,X)/\qw (c.bf x.2.2.1)/\x.2.2.1.length+Sm.fY (l.drop x.1)<1000000000) (λx=>l.length-x.1) (0,[],c.V,[]) rfl ⟨by simp,rfl,by simp[Ja,hR],hw,by simpa using dM⟩ ?_
  rintro⟨k,ys,V,b⟩ ⟨hk,hy,hp,hW,Yg⟩ ih;simp only at hk hy hp hW Yg ih;by_cases bC:k<l.length;have wu:=wk k (by omega);rw[A6 l k bC]at Yg;have hv:=hl l[k] (aaq bC) (c.bf V) rfl rfl hf hW (by show V.length+_<_;omega);unfold rD at hv;have I9:zH (c.bf V).H (c.bf V).sg.cP (c.bf V).sg.cH (c.bf V).V l[k]=zH c.H c.sg.cP c.sg.cH V l[k]:=rfl;rw[I9]at hv;rw[HK bC]at hp;have gE:=zN bC;have mY:=λh2=>tV bC h2;have fU:=λaa=>iB (pre:=pre) aa (c.bf V) [];rw[bM (show (c.bf V).fe=0 from hf)]at fU;cases hx:zH c.H c.sg.cP c.sg.cH V l[k] with
  |error a=>rw[hx]at hp;cases hp|ok x=>
   obtain⟨y,W⟩:=x;rw[hx]at hp hv;simp only at hp hv;obtain⟨w1,w2⟩:=Fe l[k] V y W hW.V hx;have ap:=lW ys y (by omega);have fD:=λb=>ih (k+1,ys++[y],W,b) ⟨by simp only;omega,by simp[hy],hp,yF (W:=W) hw w1 (by omega),by show W.length+Sm.fY (l.drop (k+1))<1000000000;omega⟩ (by simp only;omega);simp only at fD;have oF:(c.bf V).bf W=c.bf W:=rfl;rw[oF]at hv;generalize (c.bf V).aX=o1,(c.bf W).aX=o2,bK 9 (Sm.rows (ys++[y]))=R at *;rw[Sm.aE l[k]]at hv gE;simp only[Sm.aE l[k]]at mY;rw[Sm.aE y]at hv ap;generalize l[k]=x at *;simp[-aj,-ag,br,bC,wu,cT,eC,hz,dh,mY,fU,hv,ap,AV.ai];exact fD []
  have fR:k=l.length:=by omega
  have hh:ys=zs/\V=X:=by
   rw[fR,aaC]at hp;simpa [lB,Ja] using hp
  obtain⟨h1,h2⟩:=hh;subst h1 h2;simp[-aj,-ag,cT,eC,dh,bC]
 |error a=>
  intro aa;obtain⟨v,st',h1,W,h2,h3⟩:∃v st',(aZ S).call 0 aa 52 [.ptr pre.length 0 0 0,bp l] (pre++[c.aX])=some (v,st')/\∃W,aN v=true/\st'=pre++[((c.bf W).fail a).aX]:=by
   refine fP (sf:=s52) rfl rfl rfl ?_;generalize bp l=lv at *;simp[-aj,-ag,s52];refine bH ID.eq_1 (λx:Nat×List (List AV)×List Vd×CK×List AV=>⟨[(0,.val (.ptr pre.length 0 0 0)),(1,.val lv),(5,.val (bK 9 x.2.1)),(6,.val (.int .i64 x.1))],[],pre++[x.2.2.2.1.aX]⟩)
    (λx=>x.1<=l.length/\x.2.1.length=x.1/\(x.2.2.2.1=c.bf x.2.2.1/\lB c.H c.sg.cP c.sg.cH x.2.2.1 (l.drop x.1)=.error a/\qw (c.bf x.2.2.1)/\x.2.2.1.length+Sm.fY (l.drop x.1)<1000000000\/x.2.2.2.1=(c.bf x.2.2.1).fail a))
    (λx=>l.length-x.1) (0,[],c.V,c,[]) rfl ⟨by simp,rfl,.inl ⟨rfl,by simpa using hR,hw,by simpa using dM⟩⟩ ?_
   rintro⟨k,ys,V,d,b⟩ ⟨hk,hy,hp⟩ ih;simp only at hk hy hp ih;by_cases bC:k<l.length;have wu:=wk k (by omega);have gE:=zN bC;have mY:=λh2=>tV bC h2;rcases hp with⟨hd,hp,hW,Yg⟩|hd;subst hd;rw[A6 l k bC]at Yg;have hv:=hl l[k] (aaq bC) (c.bf V) rfl rfl hf hW (by show V.length+_<_;omega);unfold rD at hv;have I9:zH (c.bf V).H (c.bf V).sg.cP (c.bf V).sg.cH (c.bf V).V l[k]=zH c.H c.sg.cP c.sg.cH V l[k]:=rfl;rw[I9]at hv;rw[Fx bC]at hp;have fU:=λaa=>iB (pre:=pre) aa (c.bf V) [];rw[bM (show (c.bf V).fe=0 from hf)]at fU;cases hx:zH c.H c.sg.cP c.sg.cH V l[k] with
   |error a'=>
    rw[hx]at hp hv;simp only at hp hv;cases hp;obtain⟨W,aF,⟨rk,rnm,ron,rod,cH,rbd,rel,ra,Nn,rfl,q1,q2,q3⟩,hv⟩:=hv (pre.length+1);have oF:(c.bf V).bf W=c.bf W:=rfl;rw[oF]at hv;have ap:=B2 ys [.int .i64 rk,.str rnm,.str ron,.int .i64 rod,cH.ai,rbd.ai,rel.ai,.int .i64 ra,.int .i64 Nn] rfl (by omega);have fD:=λb=>ih (k+1,ys++[[.int .i64 rk,.str rnm,.str ron,.int .i64 rod,cH.ai,rbd.ai,rel.ai,.int .i64 ra,.int .i64 Nn]],W,(c.bf W).fail a,b) ⟨by simp only;omega,by simp[hy],.inr rfl⟩ (by simp only;omega);simp only at fD;generalize (c.bf V).aX=o1,((c.bf W).fail a).aX=o2,bK 9 (ys++[[.int .i64 rk,.str rnm,.str ron,.int .i64 rod,cH.ai,rbd.ai,rel.ai,.int .i64 ra,.int .i64 Nn]])=R at *;rw[Sm.aE l[k]]at hv gE;simp only[Sm.aE l[k]]at mY;generalize l[k]=x at *;simp[-aj,-ag,br,bC,wu,cT,eC,hz,dh,mY,fU,hv,ap,q1,q2,q3,AV.ai];exact fD []
   |ok x=>
    obtain⟨y,W⟩:=x;rw[hx]at hp hv;simp only at hp hv;obtain⟨w1,w2⟩:=Fe l[k] V y W hW.V hx;have Ev:lB c.H c.sg.cP c.sg.cH W (l.drop (k+1))=.error a:=by
     split at hp;rename_i h;cases hp;exact h;cases hp
    have ap:=B2 ys y.aF (by rw[Sm.aE];rfl) (by omega);have fD:=λb=>ih (k+1,ys++[y.aF],W,c.bf W,b) ⟨by simp only;omega,by simp[hy],.inl ⟨rfl,Ev,yF (W:=W) hw w1 (by omega),by show W.length+Sm.fY (l.drop (k+1))<1000000000;omega⟩⟩ (by simp only;omega);simp only at fD;have oF:(c.bf V).bf W=c.bf W:=rfl;rw[oF]at hv;generalize (c.bf V).aX=o1,(c.bf W).aX=o2,bK 9 (ys++[y.aF])=R at *;rw[Sm.aE l[k]]at hv gE;simp only[Sm.aE l[k]]at mY;rw[Sm.aE y]at hv ap;generalize l[k]=x at *;simp[-aj,-ag,br,bC,wu,cT,eC,hz,dh,mY,fU,hv,ap,AV.ai];exact fD []
   subst hd;have ij:=λaa=>iB (pre:=pre) aa ((c.bf V).fail a) [];rw[cu gH]at ij;simp only[Sm.aE l[k]]at mY;rw[Sm.aE l[k]]at gE;have hex:∃W,((c.bf V).fail a).aX=((c.bf W).fail a).aX:=⟨V,rfl⟩;generalize ((c.bf V).fail a).aX=o2,l[k]=x at *;simp[-aj,-ag,bC,cT,eC,dh,ij,hex,AV.ai];have fR:k=l.length:=(by omega);rcases hp with⟨hd,hp,_⟩|hd;rw[fR,aaC]at hp;simp[lB]at hp;subst hd;have hex:∃W,((c.bf V).fail a).aX=((c.bf W).fail a).aX:=⟨V,rfl⟩;generalize ((c.bf V).fail a).aX=o2 at *;simp[-aj,-ag,cT,eC,dh,bC,hex]
  rw[h3]at h1;exact⟨W,v,h2,h1⟩
theorem mO(s:Sm):∀c:CK,c.fe=0->qw c->c.V.length+Sm.sz s<1000000000->rD pre c s:=by
 induction s using Sm.Ga with
 |_ s Gb Bq=>
  intro c hf hw dM;have hz:=Sm.mX s;have Oo:=E.eH s.es;cases h:de c.sg.cP s.k s.es with
  |false=>
   unfold rD;rw[nG,h];exact λaa=>⟨c.V,_,⟨_,_,_,_,_,_,_,_,_,rfl,rfl,rfl,rfl⟩,Q1 c s aa (by omega) h⟩
  |true=>
   have QK:∀d:CK,d.H=c.H->d.sg=c.sg->d.fe=0->qw d->d.V.length+Sm.fY s.bd<1000000000->Br pre d s.bd:=λd _ _ h1 h2 h3=>
    iL d s.bd h1 h2 h3 λx hx e _ _ g1 g2 g3=>Gb x hx e g1 g2 g3
   have hbe:∀d:CK,d.H=c.H->d.sg=c.sg->d.fe=0->qw d->d.V.length+Sm.fY s.el<1000000000->Br pre d s.el:=λd _ _ h1 h2 h3=>
    iL d s.el h1 h2 h3 λx hx e _ _ g1 g2 g3=>Bq x hx e g1 g2 g3
   rcases O2 h with k|k|k|k|k|k|k|k|k;exact Nd c s hf hw dM k h;exact Nf c s hf hw dM k h;exact Ng c s hf hw dM k h;exact Nh c s hf hw dM k h;exact Ni c s hf hw dM k h QK hbe;exact Nj c s hf hw dM k h QK;exact Nk c s hf hw dM k h;exact Nl c s hf hw dM k h;exact Nm c s hf hw dM k h
theorem B3(c:CK)(l:List Sm)(hf:c.fe=0)(hw:qw c)(dM:c.V.length+Sm.fY l<1000000000):Br pre c l:=
 iL c l hf hw dM λs _ d _ _ h1 h2 h3=>mO s d h1 h2 h3
end R9
namespace R9
open Ax Go bY V7 kN lZ K9
variable {pre:ay}
variable{aa:Nat}{bx:bG}
theorem No{wl:Nat}{c:CK}:bn wl aa (.load true 2 false) [.val (.ptr pre.length 0 0 12)] (pre++[c.aX]) bx=some (.val (.agg [.int .i64 c.fe,.int .i64 c.fa]),pre++[c.aX],bx):=by
 simp[CK.aX,cut,AV.ai]
theorem adk{c:CK}{W:List Vd}:bn 0 aa (.store 1) [.val (.ptr pre.length 0 0 11),.val (bK 4 (W.map Vd.aF))] (pre++[c.aX]) bx=some (.none,pre++[(c.bf W).aX],bx):=by
 simp[CK.aX,CK.bf,aV,AV.ax,au]
def Ca(p:Pg)(g:Sg):CK:=⟨aM p,dX p,g,[],0,0⟩
theorem ahH{wl:Nat}{p:Pg}{g:Sg}{st:ay}:bn wl aa (.box 14) [.val (.agg [aJ 2 ((aM p).bE.map dz),bP (aM p).aI,aJ 6 ((aM p).aY.map Sg.aF),.int .i64 (dX p),bK 1 (gQ (aM p).rs),.str g.nm,bP g.ps,.bool g.cP,.int .i64 g.cH.b,.int .i64 g.cH.r,.int .i64 g.cH.d,.af,.int .i64 0,.int .i64 0])] st bx =
  some (.val (.ptr st.length 0 0 0),st++[(Ca p g).aX],bx):=by
 have h:(Ca p g).aX=.rows 0 14 [[aJ 2 ((aM p).bE.map dz),bP (aM p).aI,aJ 6 ((aM p).aY.map Sg.aF),.int .i64 (dX p),bK 1 (gQ (aM p).rs),.str g.nm,bP g.ps,.bool g.cP,.int .i64 g.cH.b,.int .i64 g.cH.r,.int .i64 g.cH.d,.af,.int .i64 0,.int .i64 0]]:=by
  simp[CK.aX,Ca,kq]
 rw[h];simp
open N7 U7 in
theorem xX(wl aa:Nat)(p:Pg)(st:ay)(hg:(j7 p).ok)(zX:GD.sm (j7 p))(dM:∀f∈p.funcs,f.params.length+Sm.fY f.body<1000000000) :
  (aZ S).call wl aa 32 [.agg p.aF] st=some (uB p,st):=by
 have em:∀wl aa st,(aZ S).call wl aa 50 [.agg p.aF] st=some (zM (j7 p),st):=λwl aa st=>Vk wl aa (j7 p) st hg zX;have XZ:p.bJ.length<1000000000:=by have:=zX.bJ;rw[tU,ac7]at this;exact this
 have Om:p.funcs.length<1000000000:=by have:=zX.funcs;rw[p0,ac7]at this;exact this
 have enm:∀wl aa st,(aZ S).call wl aa 51 [.agg p.aF] st=some (bK 1 (K9.gQ (aM p).rs),st):=λwl aa st=>by
  have:=Lx wl aa (j7 p) st hg zX.bJ;rw[DE]at this;exact this
 refine bT (sf:=s32) rfl rfl (by simp[Pg.aF,AV.ax,AV.aB]) rfl (CH p) ?_;unfold uB;unfold zM at em;cases hF:jQ (j7 p) with
 |some a=>
  rw[hF]at em;simp only[qU,fE,fX,Pg.aF]at em ⊢;simp[-aj,-ag,s32,em,au,AV.ai,aD,aC]
 |none=>
  rw[hF,Li]at em;simp only[fE,fX,Pg.aF,nC]at em enm ⊢;have t1:aN (aJ 2 ((aM p).bE.map dz))=true:=bI;have t2:(aJ 2 ((aM p).bE.map dz)).ai=aJ 2 ((aM p).bE.map dz):=bU;have t3:aN (aJ 6 ((aM p).aY.map Sg.aF))=true:=bI;have t4:(aJ 6 ((aM p).aY.map Sg.aF)).ai=aJ 6 ((aM p).aY.map Sg.aF):=bU;have t5:cJ 6 (aJ 6 ((aM p).aY.map Sg.aF))=true:=dQ (by simp[cn,Sg.aF]);have t6:bt (aJ 6 ((aM p).aY.map Sg.aF))=(aM p).aY.map Sg.aF:=aW;have r1:aN (aJ 3 (p.bJ.map Rc.aF))=true:=bI;have r2:(aJ 3 (p.bJ.map Rc.aF)).ai=aJ 3 (p.bJ.map Rc.aF):=bU;have f1:aN (aJ 7 (p.funcs.map Fc.aF))=true:=bI;have f2:(aJ 7 (p.funcs.map Fc.aF)).ai=aJ 7 (p.funcs.map Fc.aF):=bU;have f3:cJ 7 (aJ 7 (p.funcs.map Fc.aF))=true:=dQ (by simp[cn,Fc.aF]);have f4:bt (aJ 7 (p.funcs.map Fc.aF))=p.funcs.map Fc.aF:=aW;have g1:aN (aJ 4 (p.aI.map PD.cells))=true:=bI;have g2:(aJ 4 (p.aI.map PD.cells)).ai=aJ 4 (p.aI.map PD.cells):=bU;have gl1:aN (bP (aM p).aI)=true:=dn;have gl2:(bP (aM p).aI).ai=bP (aM p).aI:=eA;have nm1:aN (bK 1 (K9.gQ (aM p).rs))=true:=ct;have Y1:=λwl aa g st bx=>ahH (wl:=wl) (aa:=aa) (p:=p) (g:=g) (st:=st) (bx:=bx);have cT:(aM p).aY.length=p.funcs.length:=by simp[aM]
  have Yl:∀g:Sg,g∈(aM p).aY->qw ((Ca p g).bf g.ps):=λg hg'=>by
   have F7:=O3 p;have N3:(dN p).length=p.bJ.length:=(by simp[dN]);have GN:(aM p).aI.length<1000000000:=(by have:=zX.aI;rw[I5]at this;simpa [aM,ou] using this);have hF:∀s∈(aM p).bE,s.2.length<1000000000:=λs hs=>by
    obtain⟨r,hr,rfl⟩:=List.mem_map.1 hs;have:=zX.jo (Lc r) (by rw[tU];exact ags hr);simpa [Lc,rE,ou] using this
   have hP:∀s∈(aM p).aY,s.ps.length<1000000000:=λs hs=>by
    obtain⟨r,hr,rfl⟩:=List.mem_map.1 hs;have:=zX.params (M9 r) (by rw[p0];exact ags hr);simpa [M9,rE,IU,ou] using this
   refine⟨⟨hP g hg',GN,?_,?_,hF,hP⟩,F7,(F7.aY g hg').2⟩;show (aM p).aY.length<_;rw[cT];exact Om;show (dN p).length<_;rw[N3];exact XZ
  generalize hHS:aJ 2 ((aM p).bE.map dz)=HS at *;generalize hHG:aJ 6 ((aM p).aY.map Sg.aF)=HG at *;generalize Yk:bP (aM p).aI=GL at *;generalize aJ 3 (p.bJ.map Rc.aF)=PR,aJ 7 (p.funcs.map Fc.aF)=PF,aJ 4 (p.aI.map PD.cells)=PG,bK 1 (K9.gQ (aM p).rs)=NM at *;simp[-aj,-ag,s32,em,t1,t2,t3,t4,r1,r2,f1,f2,g1,g2,gl1,gl2,au,AV.ai];refine bH Tm.eq_1 (λx:Nat×List Bd×ay=>⟨[(1,.fp 0 0),(2,.fp 1 0),(3,.fp 2 0),(4,.fp 3 0),(6,.fp 5 0),(7,.val (.int .i64 x.1))],
    [[PR,PG,PF],[.af,.af,.af,.int .i64 0,.af],[.int .i64 0,.int .i64 0],[HS,GL,HG,.int .i64 (dX p)],[.int .i64 0,.int .i64 0],[HS,GL,HG,.int .i64 (dX p),bK 3 (x.2.1.map Bd.aF)]],x.2.2⟩)
    (λx=>x.1<=p.funcs.length/\x.2.1.length=x.1/\Jb x.2.1 (sQ (aM p) ((aM p).aY.drop x.1) (p.funcs.drop x.1))=sQ (aM p) (aM p).aY p.funcs)
    (λx=>p.funcs.length-x.1) (0,[],[]) (by simp[kq]) ⟨by simp,rfl,by simp[Jb];split<;>rename_i h<;>exact h.symm⟩ ?_
  rintro⟨k,bs,CJ⟩ ⟨hk,hbs,hp⟩ ih;simp only at hk hbs hp ih;by_cases uz:k<p.funcs.length;have vJ:k<(aM p).aY.length:=by omega
  have wu:=wk k (by omega);have gF':∀h:k<(p.funcs.map Fc.aF).length,(p.funcs.map Fc.aF)[k]=[.str p.funcs[k].name,aJ 4 (p.funcs[k].params.map PD.cells),.bool p.funcs[k].cP,.str p.funcs[k].on,.int .i64 p.funcs[k].od,bp p.funcs[k].body,.int .i64 p.funcs[k].a]:=λh=>by simp[Fc.aF]
  have Fu:∀h:k<((aM p).aY.map Sg.aF).length,((aM p).aY.map Sg.aF)[k]=[.str (aM p).aY[k].nm,bP (aM p).aY[k].ps,.bool (aM p).aY[k].cP,.int .i64 (aM p).aY[k].cH.b,.int .i64 (aM p).aY[k].cH.r,.int .i64 (aM p).aY[k].cH.d]:=λh=>by simp[Sg.aF]
  rw[Lj vJ uz]at hp;have Sq:(aM p).aY[k].ps.length=p.funcs[k].params.length:=by simp[aM,IU,ou]
  have Ya:=aaq vJ;have hB:=B3 (pre:=CJ) ((Ca p (aM p).aY[k]).bf (aM p).aY[k].ps) p.funcs[k].body rfl (Yl _ Ya) (by
   have:=dM _ (aaq uz);show (aM p).aY[k].ps.length+_<_;rw[Sq];exact this)
  unfold Br at hB;have I9:lB ((Ca p (aM p).aY[k]).bf (aM p).aY[k].ps).H ((Ca p (aM p).aY[k]).bf (aM p).aY[k].ps).sg.cP ((Ca p (aM p).aY[k]).bf (aM p).aY[k].ps).sg.cH ((Ca p (aM p).aY[k]).bf (aM p).aY[k].ps).V p.funcs[k].body=lB (aM p) (aM p).aY[k].cP (aM p).aY[k].cH (aM p).aY[k].ps p.funcs[k].body:=rfl;rw[I9]at hB;have lW:∀cs:List AV,cs.length=3->oP 3 56 (bK 3 (bs.map Bd.aF)) [cs]=some (bK 3 (bs.map Bd.aF++[cs])):=λcs hc=>eO (by simp[cn,hc]) (by simp[cN];omega);have GH:(aM p).aY[k].ps.length<1000000000:=(Yl _ Ya).s.V;have CQ:oP 4 40 .af ((aM p).aY[k].ps.map Vd.aF)=some (bK 4 ((aM p).aY[k].ps.map Vd.aF)):=by
   have:=eO (sz:=4) (bytes:=40) (r:=[]) (new:=(aM p).aY[k].ps.map Vd.aF) (by simp[cn,Vd.aF]) (by simp[cN];omega);exact this
  have ep:=λaa bx=>adk (pre:=CJ) (aa:=aa) (c:=Ca p (aM p).aY[k]) (W:=(aM p).aY[k].ps) (bx:=bx);have Y1:=λwl aa bx=>Y1 wl aa (aM p).aY[k] CJ bx;have bd1:aN (bp p.funcs[k].body)=true:=bL;have bd2:(bp p.funcs[k].body).ai=bp p.funcs[k].body:=bq;have ps1:aN (aJ 4 (p.funcs[k].params.map PD.cells))=true:=bI;have ps2:(aJ 4 (p.funcs[k].params.map PD.cells)).ai=aJ 4 (p.funcs[k].params.map PD.cells):=bU;have sp1:aN (bP (aM p).aY[k].ps)=true:=dn;have sp2:(bP (aM p).aY[k].ps).ai=bP (aM p).aY[k].ps:=eA;have sp3:bt (bP (aM p).aY[k].ps)=(aM p).aY[k].ps.map Vd.aF:=pL;have oF:∀W,((Ca p (aM p).aY[k]).bf (aM p).aY[k].ps).bf W=(Ca p (aM p).aY[k]).bf W:=λ_=>rfl;have m1:aN (bK 4 ((aM p).aY[k].ps.map Vd.aF))=true:=ct;generalize QM:(aM p).aY.map Sg.aF=RS at *;generalize hrF:p.funcs.map Fc.aF=RF at *;have FA:k<RS.length:=by rw[<-QM,ac7];exact vJ
  have Np:k<RF.length:=by rw[<-hrF,ac7];exact uz
  have FB:=Fu FA;have UZ:=gF' Np;clear Fu gF';cases hR:lB (aM p) (aM p).aY[k].cP (aM p).aY[k].cH (aM p).aY[k].ps p.funcs[k].body with
  |error a=>
   rw[hR]at hp hB;simp only at hp hB;obtain⟨W,v,w1,hB2⟩:=hB 0;rw[oF]at hB2;clear hB;have ij:=λaa=>iB (pre:=CJ) aa (((Ca p (aM p).aY[k]).bf W).fail a) [];rw[cu gH]at ij;have hcf:=λwl aa bx=>No (pre:=CJ) (wl:=wl) (aa:=aa) (c:=((Ca p (aM p).aY[k]).bf W).fail a) (bx:=bx);have yS:(((Ca p (aM p).aY[k]).bf W).fail a).fe=3/\(((Ca p (aM p).aY[k]).bf W).fail a).fa=a:=⟨rfl,rfl⟩;rw[yS.1,yS.2]at hcf;rw[<-hp];simp only[zO];have w2:aN v.ai=true:=(by rw[kF];exact w1);have w3:v.ai.ai=v.ai:=pg v;generalize (((Ca p (aM p).aY[k]).bf W).fail a).aX=o3,((Ca p (aM p).aY[k]).bf (aM p).aY[k].ps).aX=o2,(Ca p (aM p).aY[k]).aX=o1,bK 4 ((aM p).aY[k].ps.map Vd.aF)=M4,bp p.funcs[k].body=PB,aJ 4 (p.funcs[k].params.map PD.cells)=PP,bP (aM p).aY[k].ps=SP at *;generalize p.funcs[k]=fk,(aM p).aY[k]=gk at *;simp[-aj,-ag,br,enm,Y1,ep,CQ,hB2,ij,hcf,f1,f2,f3,f4,t2,t4,t5,t6,gl2,r2,g2,nm1,UZ,FB,FA,Np,bd2,sp1,sp2,sp3,aD,aC,au,AV.ai]
  |ok x=>
   obtain⟨cc,W⟩:=x;rw[hR]at hp hB;simp only at hp hB;have hB2:=λaa=>hB aa;clear hB;simp only[oF]at hB2;have fU:=λaa=>iB (pre:=CJ) aa ((Ca p (aM p).aY[k]).bf W) [];rw[bM (show ((Ca p (aM p).aY[k]).bf W).fe=0 from rfl)]at fU;have JE:=λwl aa bx=>AY (pre:=CJ) (wl:=wl) (aa:=aa) (c:=(Ca p (aM p).aY[k]).bf W) (r:=[]) (bx:=bx);have hvW:((Ca p (aM p).aY[k]).bf W).V=W:=rfl;rw[hvW]at JE;have fD:=ih (k+1,bs++[⟨W,cc,p.funcs[k].a⟩],CJ++[((Ca p (aM p).aY[k]).bf W).aX]) ⟨by simp only;omega,by simp[hbs],hp⟩ (by simp only;omega);simp only[List.map_append,List.map_cons,List.map_nil,Bd.aF]at fD;have w1:aN (bP W)=true:=dn;have w2:(bP W).ai=bP W:=eA;have ap:=lW [bP W,bp cc,.int .i64 p.funcs[k].a] rfl;have c1:aN (bK 9 (Sm.rows cc))=true:=ct;have c2:(bK 9 (Sm.rows cc)).ai=bp cc:=rfl;have c5:aN (bp cc)=true:=bL;have c6:(bp cc).ai=bp cc:=bq;have n1:aN (bK 3 (bs.map Bd.aF++[[bP W,bp cc,.int .i64 p.funcs[k].a]]))=true:=ct;generalize bP W=FW,bK 9 (Sm.rows cc)=MC,bp cc=SC,((Ca p (aM p).aY[k]).bf W).aX=o3,((Ca p (aM p).aY[k]).bf (aM p).aY[k].ps).aX=o2,(Ca p (aM p).aY[k]).aX=o1,bK 4 ((aM p).aY[k].ps.map Vd.aF)=M4,bp p.funcs[k].body=PB,aJ 4 (p.funcs[k].params.map PD.cells)=PP,bP (aM p).aY[k].ps=SP at *;generalize bK 3 (bs.map Bd.aF++[[FW,SC,.int .i64 p.funcs[k].a]])=BN at *;generalize bK 3 (bs.map Bd.aF)=BL,p.funcs[k]=fk,(aM p).aY[k]=gk at *;simp[-aj,-ag,br,wu,enm,Y1,ep,CQ,hB2,fU,JE,ap,f1,f2,f3,f4,t2,t4,t5,t6,gl2,r2,g2,nm1,UZ,FB,FA,Np,bd2,sp1,sp2,sp3,w1,w2,c1,c2,c5,n1,aD,aC,au,AV.ai];exact fD
  have fR:k=p.funcs.length:=by omega
  have hR:sQ (aM p) (aM p).aY p.funcs=.ok bs:=by
   rw[<-hp,fR,aaC,<-cT,aaC];simp[sQ,Jb]
  rw[hR];have n1:aN (bK 3 (bs.map Bd.aF))=true:=ct;have n2:(bK 3 (bs.map Bd.aF)).ai=aJ 3 (bs.map Bd.aF):=rfl;have n4:aN (aJ 3 (bs.map Bd.aF))=true:=bI;simp only[zO,nC];rw[hHS,hHG,Yk];generalize bK 3 (bs.map Bd.aF)=BL,aJ 3 (bs.map Bd.aF)=BV at *;simp[-aj,-ag,uz,f1,f2,f4,t1,t2,t3,t4,gl1,gl2,n2,n4,au,AV.ai]
end R9
