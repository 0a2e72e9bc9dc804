/- Part of a proof. -/
import Derived.Test.YtlcehclecbakiaaGreatT

open List renaming eq_nil_of_length_eq_zero→abJ,drop_length→abp,getElem_mem→aar,length_map→abM,mem_map_of_mem→agH
set_option maxRecDepth 100000
set_option maxHeartbeats 8000000
namespace R9
open Ax Go aF V7 jw jX K9
variable {pre:ag}
theorem eO{s:Sm}:aL (bf s.es)=true/\aL (bN s.bd)=true/\aL (bN s.el)=true:=⟨bQ,cZ,cZ⟩
theorem Sa(c:CK)(s:Sm)(aa:Nat)(hn:s.es.length<1000000000)(h:eu c.sg.bg s.k s.es=false) :
  (aP S).call 0 aa 102 [.ptr pre.length 0 0 0,.agg s.row] (pre++[c.aZ])=some (.agg [.int .i64 s.k,.str [],.str [],.int .i64 0,.U,.U,.U,.int .i64 s.a,.int .i64 0],pre++[(c.fail s.a).aZ]):=by
 have Sb:=λaa=>yC (pre:=pre) aa c s [] hn;have zk:=λaa=>jj (pre:=pre) aa c s.a [];rw[h]at Sb;obtain⟨e1,b1,l1⟩:=eO (s:=s);have e2:(bf s.es).view=bf s.es:=bH;have b2:(bN s.bd).view=bN s.bd:=bz;have l2:(bN s.el).view=bN s.el:=bz;rw[Sm.aE]at *;generalize bf s.es=kv at *;generalize bN s.bd=bv at *;generalize bN s.el=lv at *;generalize (c.fail s.a).aZ=o2 at *;generalize c.aZ=o at *;refine aO (sf:=gH) rfl rfl rfl ?_;simp[-an,-af,gH,Sb,zk,e1,b1,l1,e2,b2,l2,aj,AV.view]
theorem HI(c:CK)(s:Sm)(aa:Nat)(hs:AO c)(hn:s.es.length<1000000000)(h:eu c.sg.bg s.k s.es=true)(ht:oW c.H s.k s.on s.od=none) :
  (aP S).call 0 aa 102 [.ptr pre.length 0 0 0,.agg s.row] (pre++[c.aZ])=some (.agg [.int .i64 s.k,.str [],.str [],.int .i64 0,.U,.U,.U,.int .i64 s.a,.int .i64 0],pre++[(c.fail s.a).aZ]):=by
 have Sb:=λaa=>yC (pre:=pre) aa c s [] hn;have zk:=λaa=>jj (pre:=pre) aa c s.a [];rw[h]at Sb;obtain⟨e1,b1,l1⟩:=eO (s:=s);have e2:(bf s.es).view=bf s.es:=bH;have b2:(bN s.bd).view=bN s.bd:=bz;have l2:(bN s.el).view=bN s.el:=bz;have xN:=λwl aa st=>JH wl aa c.H.rs s.on s.od st hs.R;have L5:=λwl aa bx=>aeu (pre:=pre) (wl:=wl) (aa:=aa) (c:=c) (r:=[]) (bx:=bx);rw[Sm.aE]at *;generalize bf s.es=kv at *;generalize bN s.bd=bv at *;generalize bN s.el=lv at *;generalize (c.fail s.a).aZ=o2 at *;generalize c.aZ=o at *;unfold oW at ht;by_cases h1:s.k=1;rw[if_pos (.inl h1)]at ht;have h2:(cz c.H.rs s.on s.od).2=false:=by
  cases hh:(cz c.H.rs s.on s.od).2 with
  |false=>rfl|true=>rw[hh]at ht;cases ht
 unfold tyV at xN;rw[h2]at xN;refine aO (sf:=gH) rfl rfl rfl ?_;have h1:(s.k=1)=True:=eq_true h1;simp[-an,-af,gH,Sb,zk,h1,L5,xN,e1,b1,l1,e2,b2,l2,aN,bp,aj,AV.view];by_cases h2:s.k=2;rw[if_pos (.inr h2)]at ht;have h3:(cz c.H.rs s.on s.od).2=false:=by
  cases hh:(cz c.H.rs s.on s.od).2 with
  |false=>rfl|true=>rw[hh]at ht;cases ht
 unfold tyV at xN;rw[h3]at xN;refine aO (sf:=gH) rfl rfl rfl ?_;have h2:(s.k=2)=True:=eq_true h2;simp[-an,-af,gH,Sb,zk,h1,h2,L5,xN,e1,b1,l1,e2,b2,l2,aN,bp,aj,AV.view];rw[if_neg (by omega)]at ht;cases ht
def ig:aX:=iF (iF (iF (iF (iF (iF (iF gH.body))))))
theorem Sc(c:CK)(s:Sm)(aa:Nat)(t:T3)(hs:AO c)(hn:s.es.length<1000000000)(h:eu c.sg.bg s.k s.es=true)(hk:s.k=1\/s.k=2)(ht:oW c.H s.k s.on s.od=some t){Q:Ex->St->Prop}
  (go:W S 0 (pre.length+1) gH.results Q [.code (.loop ow),.j7 0,.code ig] .normal
   ⟨[(0,.val (.ptr pre.length 0 0 0)),(3,.fp 0 0),(4,.fp 1 0),(5,.fp 2 0),(6,.fp 3 0),(7,.val (.bool true)),(10,.val (.int .i64 0))],[s.row,Z9,[.int .i64 s.k,.str [],.str s.on,.int .i64 s.od,.U,.U,.U,.int .i64 s.a,.int .i64 0],t.cells,t.cells,[]],pre++[c.aZ]⟩) :
  W S (gH.mode.wK (pre++[c.aZ]).length 0) (gH.mode.qc (pre++[c.aZ]).length aa) gH.results Q [.code gH.body] .normal (qM gH [.ptr pre.length 0 0 0,.agg s.row] (pre++[c.aZ])):=by
 have Sb:=λaa=>yC (pre:=pre) aa c s [] hn;rw[h]at Sb;obtain⟨e1,b1,l1⟩:=eO (s:=s);have e2:(bf s.es).view=bf s.es:=bH;have b2:(bN s.bd).view=bN s.bd:=bz;have l2:(bN s.el).view=bN s.el:=bz;have xN:=λwl aa st=>JH wl aa c.H.rs s.on s.od st hs.R;have L5:=λwl aa bx=>aeu (pre:=pre) (wl:=wl) (aa:=aa) (c:=c) (r:=[]) (bx:=bx);rw[Sm.aE]at *;generalize bf s.es=kv at *;generalize bN s.bd=bv at *;generalize bN s.el=lv at *;generalize c.aZ=o at *;unfold oW at ht;rw[if_pos hk]at ht;split at ht;rename_i h2;cases ht;unfold tyV at xN;rw[h2]at xN;generalize (cz c.H.rs s.on s.od).1=t at *;rcases hk with h1|h1;have h1:(s.k=1)=True:=eq_true h1;simp[-an,-af,gH,Sb,h1,L5,xN,e1,b1,l1,e2,b2,l2,aN,bp,aj,AV.view];exact go;have h0:¬s.k=1:=by omega
 have h1:(s.k=2)=True:=eq_true h1;simp[-an,-af,gH,Sb,h0,h1,L5,xN,e1,b1,l1,e2,b2,l2,aN,bp,aj,AV.view];exact go;cases ht
theorem HJ(c:CK)(s:Sm)(aa:Nat)(hn:s.es.length<1000000000)(h:eu c.sg.bg s.k s.es=true)(hk:¬(s.k=1\/s.k=2)){Q:Ex->St->Prop}
  (go:W S 0 (pre.length+1) gH.results Q [.code (.loop ow),.j7 0,.code ig] .normal
   ⟨[(0,.val (.ptr pre.length 0 0 0)),(3,.fp 0 0),(4,.fp 1 0),(5,.fp 2 0),(6,.fp 3 0),(7,.val (.bool false)),(10,.val (.int .i64 0))],[s.row,Z9,[.int .i64 s.k,.str [],.str [],.int .i64 0,.U,.U,.U,.int .i64 s.a,.int .i64 0],T0.cells,[],[]],pre++[c.aZ]⟩) :
  W S (gH.mode.wK (pre++[c.aZ]).length 0) (gH.mode.qc (pre++[c.aZ]).length aa) gH.results Q [.code gH.body] .normal (qM gH [.ptr pre.length 0 0 0,.agg s.row] (pre++[c.aZ])):=by
 have Sb:=λaa=>yC (pre:=pre) aa c s [] hn;rw[h]at Sb;obtain⟨e1,b1,l1⟩:=eO (s:=s);have e2:(bf s.es).view=bf s.es:=bH;have b2:(bN s.bd).view=bN s.bd:=bz;have l2:(bN s.el).view=bN s.el:=bz;rw[Sm.aE]at *;generalize bf s.es=kv at *;generalize bN s.bd=bv at *;generalize bN s.el=lv at *;generalize c.aZ=o at *;have h1:¬s.k=1:=λe=>hk (.inl e);have h2:¬s.k=2:=λe=>hk (.inr e);simp[-an,-af,gH,Sb,h1,h2,e1,b1,l1,e2,b2,l2,aj,AV.view];exact go
end R9
namespace R9
open Ax Go aF V7 jw jX K9
variable {pre:ag}
def yR(H:Hd)(bg:Bool)(res:T3)(V:List Vd)(s:Sm)(ys:List E)(t:T3):Except Int (Sm×List Vd):=match nK H res V s.k s.nm ys t with
 |none=>.error s.a|some (r,W)=>if s.k=5 then
   match mO H bg res W s.bd with
   |.error x=>.error x|.ok (b,W1)=>match mO H bg res W1 s.el with
    |.error x=>.error x|.ok (c,W2)=>.ok (.mk s.k (kX s.k s.nm) (dH s.k s.on) (dJ s.k s.od) ys b c s.a r,W2)
  else if s.k=6 then
   match mO H bg res W s.bd with
   |.error x=>.error x|.ok (b,W1)=>.ok (.mk s.k (kX s.k s.nm) (dH s.k s.on) (dJ s.k s.od) ys b [] s.a r,W1)
  else .ok (.mk s.k (kX s.k s.nm) (dH s.k s.on) (dJ s.k s.od) ys [] [] s.a r,W)
def TQ(pre:ag)(Q:Ex->St->Prop)(s:Sm)(ev:AV)(o:dK)(dc:Bool)(Oe:List UInt8)(Od:Int)(b3 b4:List AV):Prop:=
 W S 0 (pre.length+1) gH.results Q [.code ig] .normal
  ⟨[(0,.val (.ptr pre.length 0 0 0)),(3,.fp 0 0),(4,.fp 1 0),(5,.fp 2 0),(6,.fp 3 0),(7,.val (.bool dc))],[s.row,Z9,[.int .i64 s.k,.str [],.str Oe,.int .i64 Od,ev,.U,.U,.int .i64 s.a,.int .i64 0],b3,b4,[]],pre++[o]⟩
def TG(pre:ag)(c:CK)(s:Sm)(ev:AV)(o:dK)(dc:Bool)(Oe:List UInt8)(Od:Int)(b3 b4:List AV)(v:AV)(st:ag):Prop:=TQ pre (CU gH.results .oP (pre++[c.aZ]) (v,st)) s ev o dc Oe Od b3 b4
theorem Of(c:CK)(s:Sm)(a:Int)(ev:AV)(dc:Bool)(Oe:List UInt8)(Od:Int)(b3 b4:List AV)(hv:aL ev=true) :
  TG pre c s ev (c.fail a).aZ dc Oe Od b3 b4 (.agg [.int .i64 s.k,.str [],.str Oe,.int .i64 Od,ev.view,.U,.U,.int .i64 s.a,.int .i64 0]) (pre++[(c.fail a).aZ]):=by
 unfold TG TQ;have Bm:=rB (c:=c) (a:=a);have s5:=λaa=>gw (pre:=pre) aa (c.fail a) [];rw[decide_eq_false Bm]at s5;generalize (c.fail a).aZ=o2 at *;have hv2:aL ev.view=true:=by rw[rK];exact hv
 have hv3:ev.view.view=ev.view:=rL ev;generalize s.row=row at *;simp[-an,-af,ig,iF,gH,s5,hv2,aj,AV.view]
theorem p5(c:CK)(s:Sm)(hf:c.fe=0)(hw:BJ c)(fM:c.V.length+Sm.sz s<1000000000)(h:eu c.sg.bg s.k s.es=true)(t:T3)(ht:oW c.H s.k s.on s.od=some t)
  (rest:∀ys,yq c.H c.V s.k s.es=.ok ys->match yR c.H c.sg.bg c.sg.res c.V s ys t with
   |.ok (y,W)=>TG pre c s (bF 11 (E.rows ys)) c.aZ (decide (s.k=1\/s.k=2)) (dH s.k s.on) (dJ s.k s.od) (if s.k=1\/s.k=2 then t.cells else T0.cells) (if s.k=1\/s.k=2 then t.cells else []) (.agg y.row) (pre++[(c.cC W).aZ])|.error a=>∃W row,Jm row/\TG pre c s (bF 11 (E.rows ys)) c.aZ (decide (s.k=1\/s.k=2)) (dH s.k s.on) (dJ s.k s.od) (if s.k=1\/s.k=2 then t.cells else T0.cells) (if s.k=1\/s.k=2 then t.cells else []) (.agg row) (pre++[((c.cC W).fail a).aZ])):C2 pre c s:=by
 have hz:=Sm.uD s;have hel:=E.lK s.es;have qU:∀x∈s.es,Wh pre c x:=λx hx=>nE c hf hw x (by have:=E.tD hx;omega);have pO:c.cC c.V=c:=rfl;have an5:yM c.H c.sg.bg c.sg.res c.V s=match yq c.H c.V s.k s.es with
   |.error x=>.error x|.ok ys=>yR c.H c.sg.bg c.sg.res c.V s ys t:=by rw[Fa,if_pos h,ht];rfl
 unfold C2;rw[an5];have key:∀aa (Q:Ex->St->Prop),(∀ys,yq c.H c.V s.k s.es=.ok ys->TQ pre Q s (bF 11 (E.rows ys)) c.aZ (decide (s.k=1\/s.k=2)) (dH s.k s.on) (dJ s.k s.od) (if s.k=1\/s.k=2 then t.cells else T0.cells) (if s.k=1\/s.k=2 then t.cells else []))->
   (∀a ev,aL ev=true->yq c.H c.V s.k s.es=.error a->TQ pre Q s ev (c.fail a).aZ (decide (s.k=1\/s.k=2)) (dH s.k s.on) (dJ s.k s.od) (if s.k=1\/s.k=2 then t.cells else T0.cells) (if s.k=1\/s.k=2 then t.cells else []))->
   W S (gH.mode.wK (pre++[c.aZ]).length 0) (gH.mode.qc (pre++[c.aZ]).length aa) gH.results Q [.code gH.body] .normal (qM gH [.ptr pre.length 0 0 0,.agg s.row] (pre++[c.aZ])):=by
  intro aa Q g1 g2;unfold TQ at g1 g2;by_cases hk:s.k=1\/s.k=2;have h9:s.k≠9:=by omega
  have he9:yq c.H c.V s.k s.es=oQ c.H c.V s.es:=if_neg h9;have k1:dH s.k s.on=s.on:=if_pos hk;have k2:dJ s.k s.od=s.od:=if_pos hk;simp only[if_pos hk,decide_eq_true hk,k1,k2,he9]at g1 g2;exact Sc c s aa t hw.s (by omega) h hk ht (Qc c s hf (by omega) h9 qU _ _ _ _ _ _ _ _ _ _ _ _ _ rfl g1 g2);have k1:dH s.k s.on=[]:=if_neg hk;have k2:dJ s.k s.od=0:=if_neg hk;simp only[if_neg hk,decide_eq_false hk,k1,k2]at g1 g2;by_cases h9:s.k=9;obtain⟨e,hee⟩:∃e,s.es=[e]:=by
   rw[h9]at h;unfold eu at h;rw[if_neg (by decide),if_neg (by decide),if_neg (by decide),if_pos rfl]at h;match hh:s.es,h with
   |[e],_=>exact⟨e,rfl⟩
  have he9:yq c.H c.V s.k s.es=match uS c.H c.V e with
    |.error x=>.error x|.ok y=>.ok [y]:=by unfold yq;rw[if_pos h9,hee];rfl
  rw[he9]at g1 g2;exact HJ c s aa (by omega) h hk (aau c s e hf h9 hee (qU e (by rw[hee];exact List.mem_cons_self)) _ _ _ _ _ _ _ _ _ _ _ _ _ rfl
   (λy hy=>g1 [y] (by rw[hy])) (λa ev hev hy=>g2 a ev hev (by rw[hy])))
  have he9:yq c.H c.V s.k s.es=oQ c.H c.V s.es:=if_neg h9;rw[he9]at g1 g2;exact HJ c s aa (by omega) h hk (Qc c s hf (by omega) h9 qU _ _ _ _ _ _ _ _ _ _ _ _ _ rfl g1 g2)
 cases hv:yq c.H c.V s.k s.es with
 |error a=>
  simp only;intro aa;obtain⟨v,bG,h1,row,h2,h3,h4⟩:∃v bG,(aP S).call 0 aa 102 [.ptr pre.length 0 0 0,.agg s.row] (pre++[c.aZ])=some (v,bG)/\∃row,Jm row/\v=.agg row/\bG=pre++[(c.fail a).aZ]:=by
   refine kP (sf:=gH) rfl rfl rfl (key aa _ (λys hz=>by rw[hv]at hz;cases hz) λa' ev hev hz=>?_);rw[hv]at hz;cases hz;have hT:=Of (pre:=pre) c s a ev (decide (s.k=1\/s.k=2)) (dH s.k s.on) (dJ s.k s.od) (if s.k=1\/s.k=2 then t.cells else T0.cells) (if s.k=1\/s.k=2 then t.cells else []) hev;unfold TG TQ at hT;unfold TQ;obtain⟨x',s',g1,g2⟩:=hT;exact⟨x',s',g1,_,g2,_,⟨_,_,_,_,_,_,_,_,_,rfl,by rw[rK];exact hev,rfl,rfl⟩,rfl,rfl⟩
  subst h3 h4;exact⟨c.V,row,h2,h1⟩
 |ok ys=>
  simp only;have rest:=rest ys hv;cases hR:yR c.H c.sg.bg c.sg.res c.V s ys t with
  |ok x=>
   obtain⟨y,W⟩:=x;rw[hR]at rest;simp only at rest ⊢;intro aa;exact aO (sf:=gH) rfl rfl rfl (key aa _ (λzs hz=>by rw[hv]at hz;cases hz;exact rest) λa ev _ hz=>by rw[hv]at hz;cases hz)
  |error a=>
   rw[hR]at rest;simp only at rest ⊢;intro aa;obtain⟨W,row,hb,rest⟩:=rest;exact⟨W,row,hb,aO (sf:=gH) rfl rfl rfl (key aa _ (λzs hz=>by rw[hv]at hz;cases hz;exact rest) λa ev _ hz=>by rw[hv]at hz;cases hz)⟩
end R9
namespace R9
open Ax Go aF V7 jw jX K9
variable {pre:ag}
theorem yD{es ys:List E}{H:Hd}{V:List Vd}(h:es.length=1)(hv:oQ H V es=.ok ys):∃y,ys=[y]:=by
 have:=nD hv;match ys,this with
 |[y],_=>exact⟨y,rfl⟩|[],h'=>simp at h';omega|_::_::_,h'=>simp at h';omega
theorem aav{es ys:List E}{H:Hd}{V:List Vd}(h:es.length=2)(hv:oQ H V es=.ok ys):∃y z,ys=[y,z]:=by
 have:=nD hv;match ys,this with
 |[y,z],_=>exact⟨y,z,rfl⟩|[],h'=>simp at h';omega|[_],h'=>simp at h';omega|_::_::_::_,h'=>simp at h';omega
theorem nt(k:Int)(nm on:List UInt8)(od:Int)(es:List E)(bd el:List Sm)(a dz:Int):(Sm.mk k nm on od es bd el a dz).row=[.int .i64 k,.str nm,.str on,.int .i64 od,bf es,bN bd,bN el,.int .i64 a,.int .i64 dz]:=Sm.aE _
theorem rD:bN []=.U:=rfl
theorem aez(c:CK)(s:Sm)(hf:c.fe=0)(hw:BJ c)(fM:c.V.length+Sm.sz s<1000000000)(hk:s.k=8)(h:eu c.sg.bg s.k s.es=true):C2 pre c s:=by
 refine p5 c s hf hw fM h T0 (by rw[hk];rfl) λys lu=>?_;have qU:yq c.H c.V s.k s.es=oQ c.H c.V s.es:=if_neg (by omega);rw[qU]at lu;rw[hk]at h;obtain⟨y,rfl⟩:=yD (by simpa [eu] using h) lu;have kR:=λaa=>gw (pre:=pre) aa c [];rw[decide_eq_true hf]at kR;have eI:=λwl aa st=>cm wl aa st;have eT:=λwl aa st=>ck wl aa st;have zk:=λaa=>jj (pre:=pre) aa c s.a [];have eV:=λaa=>jP (pre:=pre) aa c s.nm [] hw.s;have C5:=λwl aa bx=>AW (pre:=pre) (wl:=wl) (aa:=aa) (c:=c) (r:=[]) (bx:=bx);have FF:=λwl aa bx=>CB (pre:=pre) (wl:=wl) (aa:=aa) (c:=c) (r:=[]) (bx:=bx);obtain⟨e1,b1,l1⟩:=eO (s:=s);have b2:(bN s.bd).view=bN s.bd:=bz;have l2:(bN s.el).view=bN s.el:=bz;have m1:aL (bF 11 (E.rows [y]))=true:=cP;have m2:(bF 11 (E.rows [y])).view=bf [y]:=rfl;have m3:aJ (bF 11 (E.rows [y]))=[y.row]:=rfl;have m4:bY 11 (bF 11 (E.rows [y]))=true:=by simp[E.rows,bw,E.aE]
 have v1:aL (bf [y])=true:=bQ;have v2:(bf [y]).view=bf [y]:=bH;have v3:aJ (bf [y])=[y.row]:=rfl;have v4:bY 11 (bf [y])=true:=nM;have pO:c.cC c.V=c:=rfl;have hp:(decide ((8:Int)=1\/(8:Int)=2))=false:=by decide
 have wG:¬((8:Int)=1\/(8:Int)=2):=by decide
 have k1:dH 8 s.on=[]:=rfl;have k2:dJ 8 s.od=0:=rfl;have hR:yR c.H c.sg.bg c.sg.res c.V s [y] T0=if y.ty=tI then .ok (.mk 8 [] [] 0 [y] [] [] s.a 0,c.V) else .error s.a:=by
  unfold yR nK;simp only[hk];by_cases q:y.ty=tI;simp[yp,q,kX,dH,dJ];simp[yp,q]
 rw[hR,hk];rw[k1,k2,hp,if_neg wG,if_neg wG];rw[E.aE y]at m3 v3;by_cases q:y.ty=tI;rw[if_pos q];simp only;unfold TG TQ;rw[nt,Sm.aE s,hk,pO,rD];generalize bF 11 (E.rows [y])=M at *;generalize bf [y]=yv at *;generalize bf s.es=kv at *;generalize bN s.bd=bv at *;generalize bN s.el=lv at *;generalize c.aZ=o at *;simp[-an,-af,cg,ig,iF,gH,kR,eI,q,m2,v1,v3,v4,ai,ah,aj,AV.view];rw[if_neg q];simp only;refine⟨c.V,[.int .i64 8,.str [],.str [],.int .i64 0,bf [y],.U,.U,.int .i64 s.a,.int .i64 0],⟨_,_,_,_,_,_,_,_,_,rfl,v1,rfl,rfl⟩,?_⟩;unfold TG TQ;rw[Sm.aE s,hk,pO];generalize bF 11 (E.rows [y])=M at *;generalize bf [y]=yv at *;generalize bf s.es=kv at *;generalize bN s.bd=bv at *;generalize bN s.el=lv at *;generalize (c.fail s.a).aZ=o2 at *;generalize c.aZ=o at *;simp[-an,-af,cg,ig,iF,gH,kR,eI,K9.dI,q,zk,m2,v1,v3,v4,ai,ah,aj,AV.view]
theorem aeA(c:CK)(s:Sm)(hf:c.fe=0)(hw:BJ c)(fM:c.V.length+Sm.sz s<1000000000)(hk:s.k=4)(h:eu c.sg.bg s.k s.es=true):C2 pre c s:=by
 refine p5 c s hf hw fM h T0 (by rw[hk];rfl) λys lu=>?_;have qU:yq c.H c.V s.k s.es=oQ c.H c.V s.es:=if_neg (by omega);rw[qU]at lu;rw[hk]at h;obtain⟨y,z,rfl⟩:=aav (by
  unfold eu at h;rw[if_neg (by decide),if_pos rfl]at h;match hh:s.es,h with
  |[_,_],_=>rfl) lu
 have kR:=λaa=>gw (pre:=pre) aa c [];rw[decide_eq_true hf]at kR;have eI:=λwl aa st=>cm wl aa st;have eT:=λwl aa st=>ck wl aa st;have zk:=λaa=>jj (pre:=pre) aa c s.a [];have eV:=λaa=>jP (pre:=pre) aa c s.nm [] hw.s;have C5:=λwl aa bx=>AW (pre:=pre) (wl:=wl) (aa:=aa) (c:=c) (r:=[]) (bx:=bx);have FF:=λwl aa bx=>CB (pre:=pre) (wl:=wl) (aa:=aa) (c:=c) (r:=[]) (bx:=bx);obtain⟨e1,b1,l1⟩:=eO (s:=s);have b2:(bN s.bd).view=bN s.bd:=bz;have l2:(bN s.el).view=bN s.el:=bz;have m1:aL (bF 11 (E.rows [y,z]))=true:=cP;have m2:(bF 11 (E.rows [y,z])).view=bf [y,z]:=rfl;have m3:aJ (bF 11 (E.rows [y,z]))=[y.row,z.row]:=rfl;have m4:bY 11 (bF 11 (E.rows [y,z]))=true:=by simp[E.rows,bw,E.aE]
 have v1:aL (bf [y,z])=true:=bQ;have v2:(bf [y,z]).view=bf [y,z]:=bH;have v3:aJ (bf [y,z])=[y.row,z.row]:=rfl;have v4:bY 11 (bf [y,z])=true:=nM;have pO:c.cC c.V=c:=rfl;have hp:(decide ((4:Int)=1\/(4:Int)=2))=false:=by decide
 have wG:¬((4:Int)=1\/(4:Int)=2):=by decide
 have k1:dH 4 s.on=[]:=rfl;have k2:dJ 4 s.od=0:=rfl;have hR:yR c.H c.sg.bg c.sg.res c.V s [y,z] T0=if y.ty=z.ty then .ok (.mk 4 [] [] 0 [y,z] [] [] s.a 0,c.V) else .error s.a:=by
  unfold yR nK;simp only[hk];by_cases q:y.ty=z.ty;simp[yp,E9,q,kX,dH,dJ];simp[yp,E9,q]
 rw[hR,hk];rw[k1,k2,hp,if_neg wG,if_neg wG];rw[E.aE y,E.aE z]at m3 v3;by_cases q:y.ty=z.ty;rw[if_pos q];have q:(y.ty=z.ty)=True:=eq_true q;simp only;unfold TG TQ;rw[nt,Sm.aE s,hk,pO,rD];generalize bF 11 (E.rows [y,z])=M at *;generalize bf [y,z]=yv at *;generalize bf s.es=kv at *;generalize bN s.bd=bv at *;generalize bN s.el=lv at *;generalize c.aZ=o at *;simp[-an,-af,cg,ig,iF,gH,kR,dU,q,m2,v1,v3,v4,ai,ah,aj,AV.view];rw[if_neg q];simp only;refine⟨c.V,[.int .i64 4,.str [],.str [],.int .i64 0,bf [y,z],.U,.U,.int .i64 s.a,.int .i64 0],⟨_,_,_,_,_,_,_,_,_,rfl,v1,rfl,rfl⟩,?_⟩;unfold TG TQ;rw[Sm.aE s,hk,pO];generalize bF 11 (E.rows [y,z])=M at *;generalize bf [y,z]=yv at *;generalize bf s.es=kv at *;generalize bN s.bd=bv at *;generalize bN s.el=lv at *;generalize (c.fail s.a).aZ=o2 at *;generalize c.aZ=o at *;simp[-an,-af,cg,ig,iF,gH,kR,dU,q,zk,m2,v1,v3,v4,ai,ah,aj,AV.view]
theorem aeB(c:CK)(s:Sm)(hf:c.fe=0)(hw:BJ c)(fM:c.V.length+Sm.sz s<1000000000)(hk:s.k=9)(h:eu c.sg.bg s.k s.es=true):C2 pre c s:=by
 refine p5 c s hf hw fM h T0 (by rw[hk];rfl) λys lu=>?_;obtain⟨y,rfl⟩:∃y,ys=[y]:=by
  unfold yq at lu;rw[hk]at lu h;unfold eu at h;rw[if_neg (by decide),if_neg (by decide),if_neg (by decide),if_pos rfl]at h;rw[if_pos rfl]at lu;match hh:s.es,h with
  |[e],_=>
   rw[hh]at lu;simp only at lu;cases hx:uS c.H c.V e with
   |error a=>rw[hx]at lu;cases lu|ok y=>rw[hx]at lu;cases lu;exact⟨y,rfl⟩
 have kR:=λaa=>gw (pre:=pre) aa c [];rw[decide_eq_true hf]at kR;have eI:=λwl aa st=>cm wl aa st;have eT:=λwl aa st=>ck wl aa st;have zk:=λaa=>jj (pre:=pre) aa c s.a [];have eV:=λaa=>jP (pre:=pre) aa c s.nm [] hw.s;have C5:=λwl aa bx=>AW (pre:=pre) (wl:=wl) (aa:=aa) (c:=c) (r:=[]) (bx:=bx);have FF:=λwl aa bx=>CB (pre:=pre) (wl:=wl) (aa:=aa) (c:=c) (r:=[]) (bx:=bx);obtain⟨e1,b1,l1⟩:=eO (s:=s);have b2:(bN s.bd).view=bN s.bd:=bz;have l2:(bN s.el).view=bN s.el:=bz;have m1:aL (bF 11 (E.rows [y]))=true:=cP;have m2:(bF 11 (E.rows [y])).view=bf [y]:=rfl;have m3:aJ (bF 11 (E.rows [y]))=[y.row]:=rfl;have m4:bY 11 (bF 11 (E.rows [y]))=true:=by simp[E.rows,bw,E.aE]
 have v1:aL (bf [y])=true:=bQ;have v2:(bf [y]).view=bf [y]:=bH;have v3:aJ (bf [y])=[y.row]:=rfl;have v4:bY 11 (bf [y])=true:=nM;have pO:c.cC c.V=c:=rfl;have hp:(decide ((9:Int)=1\/(9:Int)=2))=false:=by decide
 have wG:¬((9:Int)=1\/(9:Int)=2):=by decide
 have k1:dH 9 s.on=[]:=rfl;have k2:dJ 9 s.od=0:=rfl;have hR:yR c.H c.sg.bg c.sg.res c.V s [y] T0=.ok (.mk 9 [] [] 0 [y] [] [] s.a 0,c.V):=by
  unfold yR nK;simp[hk,kX,dH,dJ]
 rw[hR,hk];rw[k1,k2,hp,if_neg wG,if_neg wG];rw[E.aE y]at m3 v3;simp only;unfold TG TQ;rw[nt,Sm.aE s,hk,pO,rD];generalize bF 11 (E.rows [y])=M at *;generalize bf [y]=yv at *;generalize bf s.es=kv at *;generalize bN s.bd=bv at *;generalize bN s.el=lv at *;generalize c.aZ=o at *;simp[-an,-af,ig,iF,gH,kR,m2,v1,aj,AV.view]
theorem aeC(c:CK)(s:Sm)(hf:c.fe=0)(hw:BJ c)(fM:c.V.length+Sm.sz s<1000000000)(hk:s.k=3)(h:eu c.sg.bg s.k s.es=true):C2 pre c s:=by
 refine p5 c s hf hw fM h T0 (by rw[hk];rfl) λys lu=>?_;have qU:yq c.H c.V s.k s.es=oQ c.H c.V s.es:=if_neg (by omega);rw[qU]at lu;rw[hk]at h;obtain⟨y,rfl⟩:=yD (by simpa [eu] using h) lu;have kR:=λaa=>gw (pre:=pre) aa c [];rw[decide_eq_true hf]at kR;have eI:=λwl aa st=>cm wl aa st;have eT:=λwl aa st=>ck wl aa st;have zk:=λaa=>jj (pre:=pre) aa c s.a [];have eV:=λaa=>jP (pre:=pre) aa c s.nm [] hw.s;have C5:=λwl aa bx=>AW (pre:=pre) (wl:=wl) (aa:=aa) (c:=c) (r:=[]) (bx:=bx);have FF:=λwl aa bx=>CB (pre:=pre) (wl:=wl) (aa:=aa) (c:=c) (r:=[]) (bx:=bx);obtain⟨e1,b1,l1⟩:=eO (s:=s);have b2:(bN s.bd).view=bN s.bd:=bz;have l2:(bN s.el).view=bN s.el:=bz;have m1:aL (bF 11 (E.rows [y]))=true:=cP;have m2:(bF 11 (E.rows [y])).view=bf [y]:=rfl;have m3:aJ (bF 11 (E.rows [y]))=[y.row]:=rfl;have m4:bY 11 (bF 11 (E.rows [y]))=true:=by simp[E.rows,bw,E.aE]
 have v1:aL (bf [y])=true:=bQ;have v2:(bf [y]).view=bf [y]:=bH;have v3:aJ (bf [y])=[y.row]:=rfl;have v4:bY 11 (bf [y])=true:=nM;have pO:c.cC c.V=c:=rfl;have hp:(decide ((3:Int)=1\/(3:Int)=2))=false:=by decide
 have wG:¬((3:Int)=1\/(3:Int)=2):=by decide
 have k1:dH 3 s.on=[]:=rfl;have k2:dJ 3 s.od=0:=rfl;have hR:yR c.H c.sg.bg c.sg.res c.V s [y] T0=match rq c.H c.V s.nm with
   |some (u,r)=>if u=y.ty then .ok (.mk 3 s.nm [] 0 [y] [] [] s.a r,c.V) else .error s.a
   |none=>.error s.a:=by
  unfold yR nK;simp only[hk];cases rq c.H c.V s.nm with
  |none=>simp|some x=>by_cases q:x.1=y.ty<;>simp[yp,q,kX,dH,dJ]
 rw[hR,hk];rw[k1,k2,hp,if_neg wG,if_neg wG];rw[E.aE y]at m3 v3;cases hx:rq c.H c.V s.nm with
 |none=>
  rw[hx]at eV;simp only;refine⟨c.V,[.int .i64 3,.str [],.str [],.int .i64 0,bf [y],.U,.U,.int .i64 s.a,.int .i64 0],⟨_,_,_,_,_,_,_,_,_,rfl,v1,rfl,rfl⟩,?_⟩;unfold TG TQ;rw[Sm.aE s,hk,pO];generalize bF 11 (E.rows [y])=M at *;generalize bf [y]=yv at *;generalize bf s.es=kv at *;generalize bN s.bd=bv at *;generalize bN s.el=lv at *;generalize (c.fail s.a).aZ=o2 at *;generalize c.aZ=o at *;simp[-an,-af,ig,iF,gH,kR,eV,Jk,zk,m2,v1,ai,ah,aj,AV.view]
 |some x=>
  obtain⟨u,r⟩:=x;rw[hx]at eV;simp only;by_cases q:u=y.ty;rw[if_pos q];have q:(u=y.ty)=True:=eq_true q;simp only;unfold TG TQ;rw[nt,Sm.aE s,hk,pO,rD];generalize bF 11 (E.rows [y])=M at *;generalize bf [y]=yv at *;generalize bf s.es=kv at *;generalize bN s.bd=bv at *;generalize bN s.el=lv at *;generalize c.aZ=o at *;simp[-an,-af,cg,ig,iF,gH,kR,eV,Jk,dU,q,m2,v1,v3,v4,ai,ah,aj,AV.view];rw[if_neg q];simp only;refine⟨c.V,[.int .i64 3,.str [],.str [],.int .i64 0,bf [y],.U,.U,.int .i64 s.a,.int .i64 r],⟨_,_,_,_,_,_,_,_,_,rfl,v1,rfl,rfl⟩,?_⟩;unfold TG TQ;rw[Sm.aE s,hk,pO];generalize bF 11 (E.rows [y])=M at *;generalize bf [y]=yv at *;generalize bf s.es=kv at *;generalize bN s.bd=bv at *;generalize bN s.el=lv at *;generalize (c.fail s.a).aZ=o2 at *;generalize c.aZ=o at *;simp[-an,-af,cg,ig,iF,gH,kR,eV,Jk,dU,q,zk,m2,v1,v3,v4,ai,ah,aj,AV.view]
theorem aaw(c:CK)(s:Sm)(hf:c.fe=0)(hw:BJ c)(fM:c.V.length+Sm.sz s<1000000000)(hk:s.k=7)(h:eu c.sg.bg s.k s.es=true)(hh:c.sg.bg=true):C2 pre c s:=by
 refine p5 c s hf hw fM h T0 (by rw[hk];rfl) λys lu=>?_;have qU:yq c.H c.V s.k s.es=oQ c.H c.V s.es:=if_neg (by omega);rw[qU]at lu;rw[hk]at h;obtain⟨y,rfl⟩:=yD (by rw[hh]at h;simpa [eu] using h) lu;have kR:=λaa=>gw (pre:=pre) aa c [];rw[decide_eq_true hf]at kR;have eI:=λwl aa st=>cm wl aa st;have eT:=λwl aa st=>ck wl aa st;have zk:=λaa=>jj (pre:=pre) aa c s.a [];have eV:=λaa=>jP (pre:=pre) aa c s.nm [] hw.s;have C5:=λwl aa bx=>AW (pre:=pre) (wl:=wl) (aa:=aa) (c:=c) (r:=[]) (bx:=bx);have FF:=λwl aa bx=>CB (pre:=pre) (wl:=wl) (aa:=aa) (c:=c) (r:=[]) (bx:=bx);obtain⟨e1,b1,l1⟩:=eO (s:=s);have b2:(bN s.bd).view=bN s.bd:=bz;have l2:(bN s.el).view=bN s.el:=bz;have m1:aL (bF 11 (E.rows [y]))=true:=cP;have m2:(bF 11 (E.rows [y])).view=bf [y]:=rfl;have m3:aJ (bF 11 (E.rows [y]))=[y.row]:=rfl;have m4:bY 11 (bF 11 (E.rows [y]))=true:=by simp[E.rows,bw,E.aE]
 have v1:aL (bf [y])=true:=bQ;have v2:(bf [y]).view=bf [y]:=bH;have v3:aJ (bf [y])=[y.row]:=rfl;have v4:bY 11 (bf [y])=true:=nM;have pO:c.cC c.V=c:=rfl;have hp:(decide ((7:Int)=1\/(7:Int)=2))=false:=by decide
 have wG:¬((7:Int)=1\/(7:Int)=2):=by decide
 have k1:dH 7 s.on=[]:=rfl;have k2:dJ 7 s.od=0:=rfl;have hR:yR c.H c.sg.bg c.sg.res c.V s [y] T0=if y.ty=c.sg.res then .ok (.mk 7 [] [] 0 [y] [] [] s.a 0,c.V) else .error s.a:=by
  unfold yR nK;simp only[hk];by_cases q:y.ty=c.sg.res;simp[yp,q,kX,dH,dJ];simp[yp,q]
 rw[hh]at C5;rw[hR,hk];rw[k1,k2,hp,if_neg wG,if_neg wG];rw[E.aE y]at m3 v3;by_cases q:y.ty=c.sg.res;rw[if_pos q];have q:(y.ty=c.sg.res)=True:=eq_true q;simp only;unfold TG TQ;rw[nt,Sm.aE s,hk,pO,rD];generalize bF 11 (E.rows [y])=M at *;generalize bf [y]=yv at *;generalize bf s.es=kv at *;generalize bN s.bd=bv at *;generalize bN s.el=lv at *;generalize c.aZ=o at *;simp[-an,-af,cg,ig,iF,gH,kR,C5,FF,dU,q,m2,v1,v3,v4,ai,ah,aj,AV.view];rw[if_neg q];simp only;refine⟨c.V,[.int .i64 7,.str [],.str [],.int .i64 0,bf [y],.U,.U,.int .i64 s.a,.int .i64 0],⟨_,_,_,_,_,_,_,_,_,rfl,v1,rfl,rfl⟩,?_⟩;unfold TG TQ;rw[Sm.aE s,hk,pO];generalize bF 11 (E.rows [y])=M at *;generalize bf [y]=yv at *;generalize bf s.es=kv at *;generalize bN s.bd=bv at *;generalize bN s.el=lv at *;generalize (c.fail s.a).aZ=o2 at *;generalize c.aZ=o at *;simp[-an,-af,cg,ig,iF,gH,kR,C5,FF,dU,q,zk,m2,v1,v3,v4,ai,ah,aj,AV.view]
theorem aax(c:CK)(s:Sm)(hf:c.fe=0)(hw:BJ c)(fM:c.V.length+Sm.sz s<1000000000)(hk:s.k=7)(h:eu c.sg.bg s.k s.es=true)(hh:c.sg.bg=false):C2 pre c s:=by
 refine p5 c s hf hw fM h T0 (by rw[hk];rfl) λys lu=>?_;have qU:yq c.H c.V s.k s.es=oQ c.H c.V s.es:=if_neg (by omega);rw[qU]at lu;rw[hk]at h;obtain rfl:ys=[]:=by
  have h0:s.es=[]:=by rw[hh]at h;simpa [eu] using h
  have:=nD lu;rw[h0]at this;exact abJ this
 have kR:=λaa=>gw (pre:=pre) aa c [];rw[decide_eq_true hf]at kR;have eI:=λwl aa st=>cm wl aa st;have eT:=λwl aa st=>ck wl aa st;have zk:=λaa=>jj (pre:=pre) aa c s.a [];have eV:=λaa=>jP (pre:=pre) aa c s.nm [] hw.s;have C5:=λwl aa bx=>AW (pre:=pre) (wl:=wl) (aa:=aa) (c:=c) (r:=[]) (bx:=bx);have FF:=λwl aa bx=>CB (pre:=pre) (wl:=wl) (aa:=aa) (c:=c) (r:=[]) (bx:=bx);obtain⟨e1,b1,l1⟩:=eO (s:=s);have b2:(bN s.bd).view=bN s.bd:=bz;have l2:(bN s.el).view=bN s.el:=bz;have m1:aL (bF 11 (E.rows []))=true:=cP;have m2:(bF 11 (E.rows [])).view=bf []:=rfl;have m3:aJ (bF 11 (E.rows []))=[]:=rfl;have m4:bY 11 (bF 11 (E.rows []))=true:=by simp[E.rows,bw]
 have v1:aL (bf [])=true:=bQ;have v2:(bf []).view=bf []:=bH;have v3:aJ (bf [])=[]:=rfl;have v4:bY 11 (bf [])=true:=nM;have pO:c.cC c.V=c:=rfl;have hp:(decide ((7:Int)=1\/(7:Int)=2))=false:=by decide
 have wG:¬((7:Int)=1\/(7:Int)=2):=by decide
 have k1:dH 7 s.on=[]:=rfl;have k2:dJ 7 s.od=0:=rfl;have hR:yR c.H c.sg.bg c.sg.res c.V s [] T0=.ok (.mk 7 [] [] 0 [] [] [] s.a 0,c.V):=by
  unfold yR nK;simp[hk,kX,dH,dJ]
 rw[hh]at C5;rw[hR,hk];rw[k1,k2,hp,if_neg wG,if_neg wG];simp only;unfold TG TQ;rw[nt,Sm.aE s,hk,pO,rD];generalize bF 11 (E.rows [])=M at *;generalize bf []=yv at *;generalize bf s.es=kv at *;generalize bN s.bd=bv at *;generalize bN s.el=lv at *;generalize c.aZ=o at *;simp[-an,-af,ig,iF,gH,kR,C5,m2,v1,ai,ah,aj,AV.view]
theorem aeD(c:CK)(s:Sm)(hf:c.fe=0)(hw:BJ c)(fM:c.V.length+Sm.sz s<1000000000)(hk:s.k=7)(h:eu c.sg.bg s.k s.es=true):C2 pre c s:=by
 cases hh:c.sg.bg with
 |true=>exact aaw c s hf hw fM hk h hh|false=>exact aax c s hf hw fM hk h hh
theorem Se(aa:Nat)(c:CK)(l:List Sm)(hf:c.fe≠0):(aP S).call 0 aa 71 [.ptr pre.length 0 0 0,bN l] (pre++[c.aZ])=some (.U,pre++[c.aZ]):=by
 have jB:aL (bN l)=true:=cZ;have kQ:(bN l).view=bN l:=bz;have jn:aJ (bN l)=Sm.rows l:=aM;have kR:=λaa=>gw (pre:=pre) aa c [];rw[decide_eq_false hf]at kR;generalize bN l=lv at *;generalize c.aZ=o at *;refine aO (sf:=s71) rfl rfl rfl ?_;simp[-an,-af,s71];rw[vq IT.eq_1];by_cases h:0<l.length;simp[-an,-af,jB,kQ,jn,h,kR];simp[-an,-af,jB,kQ,jn,h]
theorem aeE(c:CK)(s:Sm)(hf:c.fe=0)(hw:BJ c)(fM:c.V.length+Sm.sz s<1000000000)(hk:s.k=6)(h:eu c.sg.bg s.k s.es=true)(ME:∀d:CK,d.H=c.H->d.sg=c.sg->d.fe=0->BJ d->d.V.length+Sm.eH s.bd<1000000000->MA pre d s.bd):C2 pre c s:=by
 refine p5 c s hf hw fM h T0 (by rw[hk];rfl) λys lu=>?_;have qU:yq c.H c.V s.k s.es=oQ c.H c.V s.es:=if_neg (by omega);rw[qU]at lu;rw[hk]at h;obtain⟨y,rfl⟩:=yD (by simpa [eu] using h) lu;have kR:=λaa=>gw (pre:=pre) aa c [];rw[decide_eq_true hf]at kR;have eI:=λwl aa st=>cm wl aa st;have eT:=λwl aa st=>ck wl aa st;have zk:=λaa=>jj (pre:=pre) aa c s.a [];have eV:=λaa=>jP (pre:=pre) aa c s.nm [] hw.s;have C5:=λwl aa bx=>AW (pre:=pre) (wl:=wl) (aa:=aa) (c:=c) (r:=[]) (bx:=bx);have FF:=λwl aa bx=>CB (pre:=pre) (wl:=wl) (aa:=aa) (c:=c) (r:=[]) (bx:=bx);obtain⟨e1,b1,l1⟩:=eO (s:=s);have b2:(bN s.bd).view=bN s.bd:=bz;have l2:(bN s.el).view=bN s.el:=bz;have m1:aL (bF 11 (E.rows [y]))=true:=cP;have m2:(bF 11 (E.rows [y])).view=bf [y]:=rfl;have m3:aJ (bF 11 (E.rows [y]))=[y.row]:=rfl;have m4:bY 11 (bF 11 (E.rows [y]))=true:=by simp[E.rows,bw,E.aE]
 have v1:aL (bf [y])=true:=bQ;have v2:(bf [y]).view=bf [y]:=bH;have v3:aJ (bf [y])=[y.row]:=rfl;have v4:bY 11 (bf [y])=true:=nM;have pO:c.cC c.V=c:=rfl;have hp:(decide ((6:Int)=1\/(6:Int)=2))=false:=by decide
 have wG:¬((6:Int)=1\/(6:Int)=2):=by decide
 have k1:dH 6 s.on=[]:=rfl;have k2:dJ 6 s.od=0:=rfl;have hR:yR c.H c.sg.bg c.sg.res c.V s [y] T0=if y.ty=tB then (match mO c.H c.sg.bg c.sg.res c.V s.bd with
   |.error x=>.error x|.ok (b,W1)=>.ok (.mk 6 [] [] 0 [y] b [] s.a 0,W1)) else .error s.a:=by
  unfold yR nK;simp only[hk];by_cases q:y.ty=tB;simp[yp,q,kX,dH,dJ]<;>rfl;simp[yp,q]
 have hz:=Sm.uD s;have hB:=ME c rfl rfl hf hw (by omega);unfold MA at hB;rw[hR,hk];rw[k1,k2,hp,if_neg wG,if_neg wG];rw[E.aE y]at m3 v3;by_cases q:y.ty=tB;rw[if_pos q];cases hb:mO c.H c.sg.bg c.sg.res c.V s.bd with
 |error a=>
  rw[hb]at hB;simp only at hB ⊢;obtain⟨W,v,w1,hB⟩:=hB (pre.length+1);have w2:aL v.view=true:=by rw[rK];exact w1
  have w3:v.view.view=v.view:=rL v;refine⟨W,[.int .i64 6,.str [],.str [],.int .i64 0,bf [y],v.view,.U,.int .i64 s.a,.int .i64 0],⟨_,_,_,_,_,_,_,_,_,rfl,v1,w2,rfl⟩,?_⟩;unfold TG TQ;rw[Sm.aE s,hk];generalize bF 11 (E.rows [y])=M at *;generalize bf [y]=yv at *;generalize bf s.es=kv at *;generalize bN s.bd=bv at *;generalize bN s.el=lv at *;generalize ((c.cC W).fail a).aZ=o2 at *;generalize c.aZ=o at *;simp[-an,-af,cg,ig,iF,gH,kR,eT,q,hB,w1,w2,m2,v1,v3,v4,b2,ai,ah,aj,AV.view]
 |ok x=>
  obtain⟨b,W1⟩:=x;rw[hb]at hB;simp only at hB ⊢;unfold TG TQ;rw[nt,Sm.aE s,hk,rD];have w1:aL (bF 9 (Sm.rows b))=true:=cP;have w2:(bF 9 (Sm.rows b)).view=bN b:=rfl;have w3:aL (bN b)=true:=cZ;have w4:(bN b).view=bN b:=bz;generalize bF 9 (Sm.rows b)=BM at *;generalize bN b=BV at *;generalize bF 11 (E.rows [y])=M at *;generalize bf [y]=yv at *;generalize bf s.es=kv at *;generalize bN s.bd=bv at *;generalize bN s.el=lv at *;generalize (c.cC W1).aZ=o2 at *;generalize c.aZ=o at *;simp[-an,-af,cg,ig,iF,gH,kR,eT,q,hB,w1,w2,w3,m2,v1,v3,v4,b2,ai,ah,aj,AV.view]
 rw[if_neg q];simp only;refine⟨c.V,[.int .i64 6,.str [],.str [],.int .i64 0,bf [y],.U,.U,.int .i64 s.a,.int .i64 0],⟨_,_,_,_,_,_,_,_,_,rfl,v1,rfl,rfl⟩,?_⟩;unfold TG TQ;rw[Sm.aE s,hk,pO];generalize bF 11 (E.rows [y])=M at *;generalize bf [y]=yv at *;generalize bf s.es=kv at *;generalize bN s.bd=bv at *;generalize bN s.el=lv at *;generalize (c.fail s.a).aZ=o2 at *;generalize c.aZ=o at *;simp[-an,-af,cg,ig,iF,gH,kR,eT,dB,q,zk,m2,v1,v3,v4,ai,ah,aj,AV.view]
theorem aeF(c:CK)(s:Sm)(hf:c.fe=0)(hw:BJ c)(fM:c.V.length+Sm.sz s<1000000000)(hk:s.k=5)(h:eu c.sg.bg s.k s.es=true)(ME:∀d:CK,d.H=c.H->d.sg=c.sg->d.fe=0->BJ d->d.V.length+Sm.eH s.bd<1000000000->MA pre d s.bd)(hbe:∀d:CK,d.H=c.H->d.sg=c.sg->d.fe=0->BJ d->d.V.length+Sm.eH s.el<1000000000->MA pre d s.el):C2 pre c s:=by
 refine p5 c s hf hw fM h T0 (by rw[hk];rfl) λys lu=>?_;have qU:yq c.H c.V s.k s.es=oQ c.H c.V s.es:=if_neg (by omega);rw[qU]at lu;rw[hk]at h;obtain⟨y,rfl⟩:=yD (by simpa [eu] using h) lu;have kR:=λaa=>gw (pre:=pre) aa c [];rw[decide_eq_true hf]at kR;have eI:=λwl aa st=>cm wl aa st;have eT:=λwl aa st=>ck wl aa st;have zk:=λaa=>jj (pre:=pre) aa c s.a [];have eV:=λaa=>jP (pre:=pre) aa c s.nm [] hw.s;have C5:=λwl aa bx=>AW (pre:=pre) (wl:=wl) (aa:=aa) (c:=c) (r:=[]) (bx:=bx);have FF:=λwl aa bx=>CB (pre:=pre) (wl:=wl) (aa:=aa) (c:=c) (r:=[]) (bx:=bx);obtain⟨e1,b1,l1⟩:=eO (s:=s);have b2:(bN s.bd).view=bN s.bd:=bz;have l2:(bN s.el).view=bN s.el:=bz;have m1:aL (bF 11 (E.rows [y]))=true:=cP;have m2:(bF 11 (E.rows [y])).view=bf [y]:=rfl;have m3:aJ (bF 11 (E.rows [y]))=[y.row]:=rfl;have m4:bY 11 (bF 11 (E.rows [y]))=true:=by simp[E.rows,bw,E.aE]
 have v1:aL (bf [y])=true:=bQ;have v2:(bf [y]).view=bf [y]:=bH;have v3:aJ (bf [y])=[y.row]:=rfl;have v4:bY 11 (bf [y])=true:=nM;have pO:c.cC c.V=c:=rfl;have hp:(decide ((5:Int)=1\/(5:Int)=2))=false:=by decide
 have wG:¬((5:Int)=1\/(5:Int)=2):=by decide
 have k1:dH 5 s.on=[]:=rfl;have k2:dJ 5 s.od=0:=rfl;have hR:yR c.H c.sg.bg c.sg.res c.V s [y] T0=if y.ty=tB then (match mO c.H c.sg.bg c.sg.res c.V s.bd with
   |.error x=>.error x|.ok (b,W1)=>match mO c.H c.sg.bg c.sg.res W1 s.el with
    |.error x=>.error x|.ok (d,W2)=>.ok (.mk 5 [] [] 0 [y] b d s.a 0,W2)) else .error s.a:=by
  unfold yR nK;simp only[hk];by_cases q:y.ty=tB;simp[yp,q,kX,dH,dJ]<;>rfl;simp[yp,q]
 have hz:=Sm.uD s;have hB:=ME c rfl rfl hf hw (by omega);unfold MA at hB;rw[hR,hk];rw[k1,k2,hp,if_neg wG,if_neg wG];rw[E.aE y]at m3 v3;by_cases q:y.ty=tB;rw[if_pos q];cases hb:mO c.H c.sg.bg c.sg.res c.V s.bd with
 |error a=>
  rw[hb]at hB;simp only at hB ⊢;obtain⟨W,v,w1,hB⟩:=hB (pre.length+1);have w2:aL v.view=true:=by rw[rK];exact w1
  have w3:v.view.view=v.view:=rL v;have hF:=λaa=>Se (pre:=pre) aa ((c.cC W).fail a) s.el rB;refine⟨W,[.int .i64 5,.str [],.str [],.int .i64 0,bf [y],v.view,.U,.int .i64 s.a,.int .i64 0],⟨_,_,_,_,_,_,_,_,_,rfl,v1,w2,rfl⟩,?_⟩;unfold TG TQ;rw[Sm.aE s,hk];generalize bF 11 (E.rows [y])=M at *;generalize bf [y]=yv at *;generalize bf s.es=kv at *;generalize bN s.bd=bv at *;generalize bN s.el=lv at *;generalize ((c.cC W).fail a).aZ=o2 at *;generalize c.aZ=o at *;simp[-an,-af,cg,ig,iF,gH,kR,eT,q,hB,hF,w1,w2,m2,v1,v3,v4,b2,l2,ai,ah,aj,AV.view]
 |ok x=>
  obtain⟨b,W1⟩:=x;rw[hb]at hB;simp only at hB ⊢;obtain⟨g1,g2⟩:=VU hw.V hb;have hL:=hbe (c.cC W1) rfl rfl hf (Jn hw g1 (by omega)) (by show W1.length+_<_;omega);unfold MA at hL;have BS:mO (c.cC W1).H (c.cC W1).sg.bg (c.cC W1).sg.res (c.cC W1).V s.el=mO c.H c.sg.bg c.sg.res W1 s.el:=rfl;rw[BS]at hL;have w1:aL (bF 9 (Sm.rows b))=true:=cP;have w2:(bF 9 (Sm.rows b)).view=bN b:=rfl;have w3:aL (bN b)=true:=cZ;have w4:(bN b).view=bN b:=bz;cases hc:mO c.H c.sg.bg c.sg.res W1 s.el with
  |error a=>
   rw[hc]at hL;simp only at hL ⊢;obtain⟨W,v,u1,hL⟩:=hL (pre.length+1);have u2:aL v.view=true:=(by rw[rK];exact u1);have u3:v.view.view=v.view:=rL v;have BR:(c.cC W1).cC W=c.cC W:=rfl;rw[BR]at hL;refine⟨W,[.int .i64 5,.str [],.str [],.int .i64 0,bf [y],bN b,v.view,.int .i64 s.a,.int .i64 0],⟨_,_,_,_,_,_,_,_,_,rfl,v1,w3,u2⟩,?_⟩;unfold TG TQ;rw[Sm.aE s,hk];generalize bF 9 (Sm.rows b)=BM at *;generalize bN b=BV at *;generalize bF 11 (E.rows [y])=M at *;generalize bf [y]=yv at *;generalize bf s.es=kv at *;generalize bN s.bd=bv at *;generalize bN s.el=lv at *;generalize (c.cC W1).aZ=o2 at *;generalize ((c.cC W).fail a).aZ=o3 at *;generalize c.aZ=o at *;simp[-an,-af,cg,ig,iF,gH,kR,eT,q,hB,hL,w1,w2,w3,u1,u2,m2,v1,v3,v4,b2,l2,ai,ah,aj,AV.view]
  |ok x=>
   obtain⟨d,W2⟩:=x;rw[hc]at hL;simp only at hL ⊢;have BR:(c.cC W1).cC W2=c.cC W2:=rfl;rw[BR]at hL;have u1:aL (bF 9 (Sm.rows d))=true:=cP;have u2:(bF 9 (Sm.rows d)).view=bN d:=rfl;have u3:aL (bN d)=true:=cZ;have u4:(bN d).view=bN d:=bz;unfold TG TQ;rw[nt,Sm.aE s,hk];generalize bF 9 (Sm.rows b)=BM at *;generalize bN b=BV at *;generalize bF 9 (Sm.rows d)=DM at *;generalize bN d=DV at *;generalize bF 11 (E.rows [y])=M at *;generalize bf [y]=yv at *;generalize bf s.es=kv at *;generalize bN s.bd=bv at *;generalize bN s.el=lv at *;generalize (c.cC W1).aZ=o2 at *;generalize (c.cC W2).aZ=o3 at *;generalize c.aZ=o at *;simp[-an,-af,cg,ig,iF,gH,kR,eT,q,hB,hL,w1,w2,w3,u1,u2,u3,m2,v1,v3,v4,b2,l2,ai,ah,aj,AV.view]
 rw[if_neg q];simp only;refine⟨c.V,[.int .i64 5,.str [],.str [],.int .i64 0,bf [y],.U,.U,.int .i64 s.a,.int .i64 0],⟨_,_,_,_,_,_,_,_,_,rfl,v1,rfl,rfl⟩,?_⟩;unfold TG TQ;rw[Sm.aE s,hk,pO];generalize bF 11 (E.rows [y])=M at *;generalize bf [y]=yv at *;generalize bf s.es=kv at *;generalize bN s.bd=bv at *;generalize bN s.el=lv at *;generalize (c.fail s.a).aZ=o2 at *;generalize c.aZ=o at *;simp[-an,-af,cg,ig,iF,gH,kR,eT,dB,q,zk,m2,v1,v3,v4,ai,ah,aj,AV.view]
end R9
namespace R9
open Ax Go aF V7 jw jX K9
variable {pre:ag}
theorem sP(c:CK)(s:Sm)(aa:Nat)(g:Bool)(hn:c.V.length<1000000000){rs:List iE}{Q:Ex->St->Prop}{kk:List sX}(bs:List (List AV))(row:List AV)(ff:row=s.row)
  (KO:W S 0 aa rs Q kk .normal ⟨[(0,.val (.ptr pre.length 0 0 0)),(3,.fp 0 0),(4,.fp 1 0),(5,.fp 2 0),(6,.fp 3 0),(7,.val (.bool true)),(11,.val (.bool (g&&(iw s.nm 0 c.V).isNone)))],row::bs,pre++[c.aZ]⟩) :
  W S 0 aa rs Q (.code (.loop IU)::.j7 3::kk) .normal ⟨[(0,.val (.ptr pre.length 0 0 0)),(3,.fp 0 0),(4,.fp 1 0),(5,.fp 2 0),(6,.fp 3 0),(7,.val (.bool true)),(11,.val (.bool g)),(15,.val (.int .i64 0))],row::bs,pre++[c.aZ]⟩:=by
 subst ff;rw[Sm.aE]at *;have hzV:bY 4 (cj c.V)=true:=rQ;have N9:aL (cj c.V)=true:=iL;have S2:aJ (cj c.V)=c.V.map Vd.row:=pK;have Kf:=λwl aa bx=>WH (pre:=pre) (wl:=wl) (aa:=aa) (c:=c) (r:=[]) (bx:=bx);generalize cj c.V=VV at *;generalize c.aZ=o at *;refine aT IU.eq_1 (λx:Nat×Bool=>⟨[(0,.val (.ptr pre.length 0 0 0)),(3,.fp 0 0),(4,.fp 1 0),(5,.fp 2 0),(6,.fp 3 0),(7,.val (.bool true)),(11,.val (.bool x.2)),(15,.val (.int .i64 x.1))],[.int .i64 s.k,.str s.nm,.str s.on,.int .i64 s.od,bf s.es,bN s.bd,bN s.el,.int .i64 s.a,.int .i64 s.dz]::bs,pre++[o]⟩)
  (λx=>x.1<=c.V.length/\(g&&(iw s.nm 0 c.V).isNone)=(x.2&&(iw s.nm x.1 (c.V.drop x.1)).isNone)) (λx=>c.V.length-x.1) (0,g) rfl ⟨by simp,by simp⟩ ?_
 rintro⟨k,b⟩ ⟨hk,hp⟩ ih;simp only at hk hp ih;by_cases aQ:k<c.V.length;have hw:=wk k (by omega);rw[yz aQ]at hp;cases b with
 |false=>
  have fA:=ih (k+1,false) ⟨by simp only;omega,by rw[hp];rfl⟩ (by simp only;omega);simp[-an,-af,Kf,N9,S2,aQ,hw,ai,ah];exact fA
 |true=>
  by_cases e:c.V[k].nm=s.nm;rw[if_pos e]at hp;have fA:=ih (k+1,false) ⟨by simp only;omega,by rw[hp];rfl⟩ (by simp only;omega);simp[-an,-af,cg,Kf,N9,hzV,S2,aQ,hw,e,Vd.row,ai,ah];exact fA;rw[if_neg e]at hp;have fA:=ih (k+1,true) ⟨by simp only;omega,hp⟩ (by simp only;omega);simp[-an,-af,cg,Kf,N9,hzV,S2,aQ,hw,e,Vd.row,ai,ah];exact fA
 have cL:k=c.V.length:=by omega
 have:b=(g&&(iw s.nm 0 c.V).isNone):=by rw[hp,cL,abp];simp[iw]
 rw[<-this]at KO;simp[-an,-af,Kf,N9,S2,aQ];exact KO
theorem aje(c:CK)(s:List UInt8)(t:T3)(hn:c.V.length<1000000000):qY 4 40 (bF 4 (c.V.map Vd.row)) [[.str s,.int .i64 t.b,.int .i64 t.r,.int .i64 t.d]]=some (bF 4 ((c.V++[(⟨s,t⟩:Vd)]).map Vd.row)):=by
 have nC:=eB (sz:=4) (bytes:=40) (r:=c.V.map Vd.row) (new:=[[.str s,.int .i64 t.b,.int .i64 t.r,.int .i64 t.d]]) (by simp[bw]) (by simp[dQ];omega);have hrw:c.V.map Vd.row++[[.str s,.int .i64 t.b,.int .i64 t.r,.int .i64 t.d]]=(c.V++[(⟨s,t⟩:Vd)]).map Vd.row:=by simp[Vd.row]
 rw[hrw]at nC;exact nC
theorem aeH(c:CK)(s:Sm)(hf:c.fe=0)(hw:BJ c)(fM:c.V.length+Sm.sz s<1000000000)(hk:s.k=1)(h:eu c.sg.bg s.k s.es=true):C2 pre c s:=by
 cases ht:oW c.H s.k s.on s.od with
 |none=>
  have hz:=Sm.uD s;have hel:=E.lK s.es;unfold C2;rw[Fa,if_pos h,ht];simp only;exact λaa=>⟨c.V,_,⟨_,_,_,_,_,_,_,_,_,rfl,rfl,rfl,rfl⟩,HI c s aa hw.s (by omega) h ht⟩
 |some t=>
  refine p5 c s hf hw fM h t ht λys lu=>?_;have qU:yq c.H c.V s.k s.es=oQ c.H c.V s.es:=if_neg (by omega);rw[qU]at lu;rw[hk]at h;obtain rfl:ys=[]:=by
   have h0:s.es.length=0:=(by simpa [eu] using h);have:=nD lu;exact abJ (by omega)
  have hVn:=hw.s.V;have kR:=λaa=>gw (pre:=pre) aa c [];rw[decide_eq_true hf]at kR;have zk:=λaa=>jj (pre:=pre) aa c s.a [];have Kf:=λwl aa bx=>WH (pre:=pre) (wl:=wl) (aa:=aa) (c:=c) (r:=[]) (bx:=bx);have et:=λaa bx=>WQ (pre:=pre) (aa:=aa) (c:=c) (bx:=bx);have ep:=λaa bx=>abW (pre:=pre) (aa:=aa) (c:=c) (w:=(bF 4 (c.V.map Vd.row)).eL) (W:=c.V++[(⟨s.nm,t⟩:Vd)]) (bx:=bx);have nC:=aje c s.nm t hVn;obtain⟨e1,b1,l1⟩:=eO (s:=s);have m0:bF 11 (E.rows [])=.U:=rfl;have N9:aL (cj c.V)=true:=iL;have S2:(aJ (cj c.V)).length=c.V.length:=by simp
  have pO:c.cC c.V=c:=rfl;have hp:(decide ((1:Int)=1\/(1:Int)=2))=true:=by decide
  have wG:((1:Int)=1\/(1:Int)=2):=by decide
  have k1:dH 1 s.on=s.on:=rfl;have k2:dJ 1 s.od=s.od:=rfl;have RG:IntKind.i64.wrap (c.V.length:Int)=c.V.length:=by rw[cI]<;>omega
  have hR:yR c.H c.sg.bg c.sg.res c.V s [] t=match iw s.nm 0 c.V with
    |some _=>.error s.a|none=>.ok (.mk 1 s.nm s.on s.od [] [] [] s.a c.V.length,c.V++[⟨s.nm,t⟩]):=by
   unfold yR nK;simp only[hk];cases iw s.nm 0 c.V<;>simp[kX,dH,dJ]
  rw[hR,hk];rw[k1,k2,hp,if_pos wG,if_pos wG,m0];cases hx:iw s.nm 0 c.V with
  |some x=>
   simp only;refine⟨c.V,[.int .i64 1,.str [],.str s.on,.int .i64 s.od,.U,.U,.U,.int .i64 s.a,.int .i64 c.V.length],⟨_,_,_,_,_,_,_,_,_,rfl,rfl,rfl,rfl⟩,?_⟩;unfold TG TQ;have tJ:=fun {Q:Ex->St->Prop} {rs:List iE} {kk:List sX} bs aa=>sP (pre:=pre) c s aa true hVn (rs:=rs) (Q:=Q) (kk:=kk) bs _ rfl;rw[hx]at tJ;rw[Sm.aE s,hk,pO]at *;generalize bf s.es=kv at *;generalize bN s.bd=bv at *;generalize bN s.el=lv at *;generalize (c.fail s.a).aZ=o2 at *;generalize c.aZ=o at *;simp[-an,-af,ig,iF,gH,kR,AV.view];refine tJ _ _ ?_;simp[-an,-af,Kf,N9,zk,aj,AV.view]
  |none=>
   simp only;unfold TG TQ;have tJ:=fun {Q:Ex->St->Prop} {rs:List iE} {kk:List sX} bs aa=>sP (pre:=pre) c s aa true hVn (rs:=rs) (Q:=Q) (kk:=kk) bs _ rfl;rw[hx]at tJ;have Bs:({ c with V:=c.V++[(⟨s.nm,t⟩:Vd)] }:CK)=c.cC (c.V++[⟨s.nm,t⟩]):=rfl;rw[Bs]at ep;rw[nt,rD];rw[Sm.aE s,hk]at *;have q1:bf []=.U:=rfl;rw[q1];generalize cj c.V=FV at *;generalize (c.cC (c.V++[⟨s.nm,t⟩])).aZ=o2 at *;generalize bF 4 ((c.V++[(⟨s.nm,t⟩:Vd)]).map Vd.row)=M2 at *;generalize c.RJ (bF 4 (c.V.map Vd.row)).eL=o3 at *;generalize bF 4 (c.V.map Vd.row)=M1 at *;generalize bf s.es=kv at *;generalize bN s.bd=bv at *;generalize bN s.el=lv at *;generalize c.aZ=o at *;simp[-an,-af,ig,iF,gH,kR,AV.view];refine tJ _ _ ?_;simp[-an,-af,Kf,et,ep,nC,N9,S2,ai,ah,aj,AV.view]
theorem aeI(c:CK)(s:Sm)(hf:c.fe=0)(hw:BJ c)(fM:c.V.length+Sm.sz s<1000000000)(hk:s.k=2)(h:eu c.sg.bg s.k s.es=true):C2 pre c s:=by
 cases ht:oW c.H s.k s.on s.od with
 |none=>
  have hz:=Sm.uD s;have hel:=E.lK s.es;unfold C2;rw[Fa,if_pos h,ht];simp only;exact λaa=>⟨c.V,_,⟨_,_,_,_,_,_,_,_,_,rfl,rfl,rfl,rfl⟩,HI c s aa hw.s (by omega) h ht⟩
 |some t=>
  refine p5 c s hf hw fM h t ht λys lu=>?_;have qU:yq c.H c.V s.k s.es=oQ c.H c.V s.es:=if_neg (by omega);rw[qU]at lu;rw[hk]at h;obtain⟨y,rfl⟩:=yD (by simpa [eu] using h) lu;have m1:aL (bF 11 (E.rows [y]))=true:=cP;have m2:(bF 11 (E.rows [y])).view=bf [y]:=rfl;have m3:aJ (bF 11 (E.rows [y]))=[y.row]:=rfl;have m4:bY 11 (bF 11 (E.rows [y]))=true:=by simp[E.rows,bw,E.aE]
  have v1:aL (bf [y])=true:=bQ;have v2:(bf [y]).view=bf [y]:=bH;have v3:aJ (bf [y])=[y.row]:=rfl;have v4:bY 11 (bf [y])=true:=nM;rw[E.aE y]at m3 v3;have hVn:=hw.s.V;have kR:=λaa=>gw (pre:=pre) aa c [];rw[decide_eq_true hf]at kR;have zk:=λaa=>jj (pre:=pre) aa c s.a [];have Kf:=λwl aa bx=>WH (pre:=pre) (wl:=wl) (aa:=aa) (c:=c) (r:=[]) (bx:=bx);have et:=λaa bx=>WQ (pre:=pre) (aa:=aa) (c:=c) (bx:=bx);have ep:=λaa bx=>abW (pre:=pre) (aa:=aa) (c:=c) (w:=(bF 4 (c.V.map Vd.row)).eL) (W:=c.V++[(⟨s.nm,t⟩:Vd)]) (bx:=bx);have nC:=aje c s.nm t hVn;obtain⟨e1,b1,l1⟩:=eO (s:=s);have N9:aL (cj c.V)=true:=iL;have S2:(aJ (cj c.V)).length=c.V.length:=by simp
  have pO:c.cC c.V=c:=rfl;have hp:(decide ((2:Int)=1\/(2:Int)=2))=true:=by decide
  have wG:((2:Int)=1\/(2:Int)=2):=by decide
  have k1:dH 2 s.on=s.on:=rfl;have k2:dJ 2 s.od=s.od:=rfl;have RG:IntKind.i64.wrap (c.V.length:Int)=c.V.length:=by rw[cI]<;>omega
  have hR:yR c.H c.sg.bg c.sg.res c.V s [y] t=if y.ty=t then (match iw s.nm 0 c.V with
    |some _=>.error s.a|none=>.ok (.mk 2 s.nm s.on s.od [y] [] [] s.a c.V.length,c.V++[⟨s.nm,t⟩])) else .error s.a:=by
   unfold yR nK;simp only[hk];by_cases q:y.ty=t;cases iw s.nm 0 c.V<;>simp[yp,q,kX,dH,dJ];simp[yp,q]
  rw[hR,hk];rw[k1,k2,hp,if_pos wG,if_pos wG];by_cases q:y.ty=t;rw[if_pos q];have q:(y.ty=t)=True:=eq_true q;cases hx:iw s.nm 0 c.V with
  |some x=>
   simp only;refine⟨c.V,[.int .i64 2,.str [],.str s.on,.int .i64 s.od,bf [y],.U,.U,.int .i64 s.a,.int .i64 c.V.length],⟨_,_,_,_,_,_,_,_,_,rfl,v1,rfl,rfl⟩,?_⟩;unfold TG TQ;have tJ:=fun {Q:Ex->St->Prop} {rs:List iE} {kk:List sX} bs aa=>sP (pre:=pre) c s aa true hVn (rs:=rs) (Q:=Q) (kk:=kk) bs _ rfl;rw[hx]at tJ;rw[Sm.aE s,hk,pO]at *;generalize bF 11 (E.rows [y])=M at *;generalize bf [y]=yv at *;generalize bf s.es=kv at *;generalize bN s.bd=bv at *;generalize bN s.el=lv at *;generalize (c.fail s.a).aZ=o2 at *;generalize c.aZ=o at *;simp[-an,-af,cg,ig,iF,gH,kR,m2,v3,v4,dU,q,ai,ah,AV.view];refine tJ _ _ ?_;simp[-an,-af,Kf,N9,zk,m2,v1,aj,AV.view]
  |none=>
   simp only;unfold TG TQ;have tJ:=fun {Q:Ex->St->Prop} {rs:List iE} {kk:List sX} bs aa=>sP (pre:=pre) c s aa true hVn (rs:=rs) (Q:=Q) (kk:=kk) bs _ rfl;rw[hx]at tJ;have Bs:({ c with V:=c.V++[(⟨s.nm,t⟩:Vd)] }:CK)=c.cC (c.V++[⟨s.nm,t⟩]):=rfl;rw[Bs]at ep;rw[nt,rD];rw[Sm.aE s,hk]at *;generalize cj c.V=FV at *;generalize (c.cC (c.V++[⟨s.nm,t⟩])).aZ=o2 at *;generalize bF 4 ((c.V++[(⟨s.nm,t⟩:Vd)]).map Vd.row)=M2 at *;generalize c.RJ (bF 4 (c.V.map Vd.row)).eL=o3 at *;generalize bF 4 (c.V.map Vd.row)=M1 at *;generalize bF 11 (E.rows [y])=M at *;generalize bf [y]=yv at *;generalize bf s.es=kv at *;generalize bN s.bd=bv at *;generalize bN s.el=lv at *;generalize c.aZ=o at *;simp[-an,-af,cg,ig,iF,gH,kR,m2,v3,v4,dU,q,ai,ah,AV.view];refine tJ _ _ ?_;simp[-an,-af,Kf,et,ep,nC,N9,S2,m2,v1,ai,ah,aj,AV.view]
  rw[if_neg q];simp only;refine⟨c.V,[.int .i64 2,.str [],.str s.on,.int .i64 s.od,bf [y],.U,.U,.int .i64 s.a,.int .i64 c.V.length],⟨_,_,_,_,_,_,_,_,_,rfl,v1,rfl,rfl⟩,?_⟩;unfold TG TQ;have tJ:=fun {Q:Ex->St->Prop} {rs:List iE} {kk:List sX} bs aa=>sP (pre:=pre) c s aa false hVn (rs:=rs) (Q:=Q) (kk:=kk) bs _ rfl;rw[Bool.false_and]at tJ;rw[Sm.aE s,hk,pO]at *;generalize bF 11 (E.rows [y])=M at *;generalize bf [y]=yv at *;generalize bf s.es=kv at *;generalize bN s.bd=bv at *;generalize bN s.el=lv at *;generalize (c.fail s.a).aZ=o2 at *;generalize c.aZ=o at *;simp[-an,-af,cg,ig,iF,gH,kR,m2,v3,v4,dU,q,ai,ah,AV.view];refine tJ _ _ ?_;simp[-an,-af,Kf,N9,zk,m2,v1,aj,AV.view]
end R9
namespace R9
open Ax Go aF V7 jw jX K9
variable {pre:ag}
theorem m9(c:CK)(l:List Sm)(hf:c.fe=0)(hw:BJ c)(fM:c.V.length+Sm.eH l<1000000000)
  (hl:∀s∈l,∀d:CK,d.H=c.H->d.sg=c.sg->d.fe=0->BJ d->d.V.length+Sm.sz s<1000000000->C2 pre d s):MA pre c l:=by
 unfold MA;have hz:bY 9 (bN l)=true:=PW;have jB:aL (bN l)=true:=cZ;have kQ:(bN l).view=bN l:=bz;have jn:aJ (bN l)=Sm.rows l:=aM;have hlen:=Sm.lK l;have nC:∀(ys:List Sm) (y:Sm),ys.length<1000000000->qY 9 136 (bF 9 (Sm.rows ys)) [y.row]=some (bF 9 (Sm.rows (ys++[y]))):=λys y h=>by
  rw[eB (by simp[bw,Sm.aE]) (by simp[dQ];omega)];simp[iP]
 have Gl:∀(ys:List (List AV)) (y:List AV),y.length=9->ys.length<1000000000->qY 9 136 (bF 9 ys) [y]=some (bF 9 (ys++[y])):=λys y h1 h=>by
  rw[eB (by simp[bw,h1]) (by simp[dQ];omega)]
 cases hR:mO c.H c.sg.bg c.sg.res c.V l with
 |ok x=>
  obtain⟨zs,X⟩:=x;intro aa;refine aO (sf:=s71) rfl rfl rfl ?_;generalize bN l=lv at *;simp[-an,-af,s71];refine aT IT.eq_1 (λx:Nat×List Sm×List Vd×List AV=>⟨[(0,.val (.ptr pre.length 0 0 0)),(1,.val lv),(5,.val (bF 9 (Sm.rows x.2.1))),(6,.val (.int .i64 x.1))],[],pre++[(c.cC x.2.2.1).aZ]⟩)
   (λx=>x.1<=l.length/\x.2.1.length=x.1/\RL x.2.1 (mO c.H c.sg.bg c.sg.res x.2.2.1 (l.drop x.1))=.ok (zs,X)/\BJ (c.cC x.2.2.1)/\x.2.2.1.length+Sm.eH (l.drop x.1)<1000000000) (λx=>l.length-x.1) (0,[],c.V,[]) rfl ⟨by simp,rfl,by simp[RL,hR],hw,by simpa using fM⟩ ?_
  rintro⟨k,ys,V,b⟩ ⟨hk,hy,hp,hW,mh⟩ ih;simp only at hk hy hp hW mh ih;by_cases aQ:k<l.length;have wA:=wk k (by omega);rw[LM l k aQ]at mh;have hv:=hl l[k] (aar aQ) (c.cC V) rfl rfl hf hW (by show V.length+_<_;omega);unfold C2 at hv;have BS:yM (c.cC V).H (c.cC V).sg.bg (c.cC V).sg.res (c.cC V).V l[k]=yM c.H c.sg.bg c.sg.res V l[k]:=rfl;rw[BS]at hv;rw[RM aQ]at hp;have gE:=Jo aQ;have BQ:=λh2=>AP aQ h2;have kR:=λaa=>gw (pre:=pre) aa (c.cC V) [];rw[decide_eq_true (show (c.cC V).fe=0 from hf)]at kR;cases hx:yM c.H c.sg.bg c.sg.res V l[k] with
  |error a=>rw[hx]at hp;cases hp|ok x=>
   obtain⟨y,W⟩:=x;rw[hx]at hp hv;simp only at hp hv;obtain⟨w1,w2⟩:=NO l[k] V y W hW.V hx;have ap:=nC ys y (by omega);have fA:=λb=>ih (k+1,ys++[y],W,b) ⟨by simp only;omega,by simp[hy],hp,Jn (W:=W) hw w1 (by omega),by show W.length+Sm.eH (l.drop (k+1))<1000000000;omega⟩ (by simp only;omega);simp only at fA;have BR:(c.cC V).cC W=c.cC W:=rfl;rw[BR]at hv;generalize (c.cC V).aZ=o1 at *;generalize (c.cC W).aZ=o2 at *;generalize bF 9 (Sm.rows (ys++[y]))=R at *;rw[Sm.aE l[k]]at hv gE;simp only[Sm.aE l[k]]at BQ;rw[Sm.aE y]at hv ap;generalize l[k]=x at *;simp[-an,-af,cg,aQ,wA,jB,kQ,hz,jn,BQ,kR,hv,ap,AV.view];exact fA []
  have cL:k=l.length:=by omega
  have hh:ys=zs/\V=X:=by
   rw[cL,abp]at hp;simpa [mO,RL] using hp
  obtain⟨h1,h2⟩:=hh;subst h1 h2;simp[-an,-af,jB,kQ,jn,aQ]
 |error a=>
  intro aa;obtain⟨v,bG,h1,W,h2,h3⟩:∃v bG,(aP S).call 0 aa 71 [.ptr pre.length 0 0 0,bN l] (pre++[c.aZ])=some (v,bG)/\∃W,aL v=true/\bG=pre++[((c.cC W).fail a).aZ]:=by
   refine kP (sf:=s71) rfl rfl rfl ?_;generalize bN l=lv at *;simp[-an,-af,s71];refine aT IT.eq_1 (λx:Nat×List (List AV)×List Vd×CK×List AV=>⟨[(0,.val (.ptr pre.length 0 0 0)),(1,.val lv),(5,.val (bF 9 x.2.1)),(6,.val (.int .i64 x.1))],[],pre++[x.2.2.2.1.aZ]⟩)
    (λx=>x.1<=l.length/\x.2.1.length=x.1/\(x.2.2.2.1=c.cC x.2.2.1/\mO c.H c.sg.bg c.sg.res x.2.2.1 (l.drop x.1)=.error a/\BJ (c.cC x.2.2.1)/\x.2.2.1.length+Sm.eH (l.drop x.1)<1000000000\/x.2.2.2.1=(c.cC x.2.2.1).fail a))
    (λx=>l.length-x.1) (0,[],c.V,c,[]) rfl ⟨by simp,rfl,.inl ⟨rfl,by simpa using hR,hw,by simpa using fM⟩⟩ ?_
   rintro⟨k,ys,V,d,b⟩ ⟨hk,hy,hp⟩ ih;simp only at hk hy hp ih;by_cases aQ:k<l.length;have wA:=wk k (by omega);have gE:=Jo aQ;have BQ:=λh2=>AP aQ h2;rcases hp with⟨hd,hp,hW,mh⟩|hd;subst hd;rw[LM l k aQ]at mh;have hv:=hl l[k] (aar aQ) (c.cC V) rfl rfl hf hW (by show V.length+_<_;omega);unfold C2 at hv;have BS:yM (c.cC V).H (c.cC V).sg.bg (c.cC V).sg.res (c.cC V).V l[k]=yM c.H c.sg.bg c.sg.res V l[k]:=rfl;rw[BS]at hv;rw[LJ aQ]at hp;have kR:=λaa=>gw (pre:=pre) aa (c.cC V) [];rw[decide_eq_true (show (c.cC V).fe=0 from hf)]at kR;cases hx:yM c.H c.sg.bg c.sg.res V l[k] with
   |error a'=>
    rw[hx]at hp hv;simp only at hp hv;cases hp;obtain⟨W,row,⟨rk,rnm,ron,rod,res,rbd,rel,ra,aeJ,rfl,q1,q2,q3⟩,hv⟩:=hv (pre.length+1);have BR:(c.cC V).cC W=c.cC W:=rfl;rw[BR]at hv;have ap:=Gl ys [.int .i64 rk,.str rnm,.str ron,.int .i64 rod,res.view,rbd.view,rel.view,.int .i64 ra,.int .i64 aeJ] rfl (by omega);have fA:=λb=>ih (k+1,ys++[[.int .i64 rk,.str rnm,.str ron,.int .i64 rod,res.view,rbd.view,rel.view,.int .i64 ra,.int .i64 aeJ]],W,(c.cC W).fail a,b) ⟨by simp only;omega,by simp[hy],.inr rfl⟩ (by simp only;omega);simp only at fA;generalize (c.cC V).aZ=o1 at *;generalize ((c.cC W).fail a).aZ=o2 at *;generalize bF 9 (ys++[[.int .i64 rk,.str rnm,.str ron,.int .i64 rod,res.view,rbd.view,rel.view,.int .i64 ra,.int .i64 aeJ]])=R at *;rw[Sm.aE l[k]]at hv gE;simp only[Sm.aE l[k]]at BQ;generalize l[k]=x at *;simp[-an,-af,cg,aQ,wA,jB,kQ,hz,jn,BQ,kR,hv,ap,q1,q2,q3,AV.view];exact fA []
   |ok x=>
    obtain⟨y,W⟩:=x;rw[hx]at hp hv;simp only at hp hv;obtain⟨w1,w2⟩:=NO l[k] V y W hW.V hx;have hp':mO c.H c.sg.bg c.sg.res W (l.drop (k+1))=.error a:=by
     split at hp;rename_i h;cases hp;exact h;cases hp
    have ap:=Gl ys y.row (by rw[Sm.aE];rfl) (by omega);have fA:=λb=>ih (k+1,ys++[y.row],W,c.cC W,b) ⟨by simp only;omega,by simp[hy],.inl ⟨rfl,hp',Jn (W:=W) hw w1 (by omega),by show W.length+Sm.eH (l.drop (k+1))<1000000000;omega⟩⟩ (by simp only;omega);simp only at fA;have BR:(c.cC V).cC W=c.cC W:=rfl;rw[BR]at hv;generalize (c.cC V).aZ=o1 at *;generalize (c.cC W).aZ=o2 at *;generalize bF 9 (ys++[y.row])=R at *;rw[Sm.aE l[k]]at hv gE;simp only[Sm.aE l[k]]at BQ;rw[Sm.aE y]at hv ap;generalize l[k]=x at *;simp[-an,-af,cg,aQ,wA,jB,kQ,hz,jn,BQ,kR,hv,ap,AV.view];exact fA []
   subst hd;have s5:=λaa=>gw (pre:=pre) aa ((c.cC V).fail a) [];rw[decide_eq_false rB]at s5;simp only[Sm.aE l[k]]at BQ;rw[Sm.aE l[k]]at gE;have hex:∃W,((c.cC V).fail a).aZ=((c.cC W).fail a).aZ:=⟨V,rfl⟩;generalize ((c.cC V).fail a).aZ=o2 at *;generalize l[k]=x at *;simp[-an,-af,aQ,jB,kQ,jn,s5,hex,AV.view];have cL:k=l.length:=(by omega);rcases hp with⟨hd,hp,_⟩|hd;rw[cL,abp]at hp;simp[mO]at hp;subst hd;have hex:∃W,((c.cC V).fail a).aZ=((c.cC W).fail a).aZ:=⟨V,rfl⟩;generalize ((c.cC V).fail a).aZ=o2 at *;simp[-an,-af,jB,kQ,jn,aQ,hex]
  rw[h3]at h1;exact⟨W,v,h2,h1⟩
theorem AM(s:Sm):∀c:CK,c.fe=0->BJ c->c.V.length+Sm.sz s<1000000000->C2 pre c s:=by
 induction s using Sm.zY with
 |_ s vQ rO=>
  intro c hf hw fM;have hz:=Sm.uD s;have hel:=E.lK s.es;cases h:eu c.sg.bg s.k s.es with
  |false=>
   unfold C2;rw[Fa,h];exact λaa=>⟨c.V,_,⟨_,_,_,_,_,_,_,_,_,rfl,rfl,rfl,rfl⟩,Sa c s aa (by omega) h⟩
  |true=>
   have ME:∀d:CK,d.H=c.H->d.sg=c.sg->d.fe=0->BJ d->d.V.length+Sm.eH s.bd<1000000000->MA pre d s.bd:=λd _ _ h1 h2 h3=>
    m9 d s.bd h1 h2 h3 λx hx e _ _ g1 g2 g3=>vQ x hx e g1 g2 g3
   have hbe:∀d:CK,d.H=c.H->d.sg=c.sg->d.fe=0->BJ d->d.V.length+Sm.eH s.el<1000000000->MA pre d s.el:=λd _ _ h1 h2 h3=>
    m9 d s.el h1 h2 h3 λx hx e _ _ g1 g2 g3=>rO x hx e g1 g2 g3
   rcases aag h with k|k|k|k|k|k|k|k|k;exact aeH c s hf hw fM k h;exact aeI c s hf hw fM k h;exact aeC c s hf hw fM k h;exact aeA c s hf hw fM k h;exact aeF c s hf hw fM k h ME hbe;exact aeE c s hf hw fM k h ME;exact aeD c s hf hw fM k h;exact aez c s hf hw fM k h;exact aeB c s hf hw fM k h
theorem Jh(c:CK)(l:List Sm)(hf:c.fe=0)(hw:BJ c)(fM:c.V.length+Sm.eH l<1000000000):MA pre c l:=
 m9 c l hf hw fM λs _ d _ _ h1 h2 h3=>AM s d h1 h2 h3
end R9
namespace R9
open Ax Go aF V7 jw jX K9
variable {pre:ag}
theorem aeK{wl aa:Nat}{c:CK}{bx:br}:aU wl aa (.load true 2 false) [.val (.ptr pre.length 0 0 12)] (pre++[c.aZ]) bx=some (.val (.agg [.int .i64 c.fe,.int .i64 c.fa]),pre++[c.aZ],bx):=by
 simp[CK.aZ,cut,AV.view]
theorem aeL{aa:Nat}{c:CK}{W:List Vd}{bx:br}:aU 0 aa (.store 1) [.val (.ptr pre.length 0 0 11),.val (bF 4 (W.map Vd.row))] (pre++[c.aZ]) bx=some (.none,pre++[(c.cC W).aZ],bx):=by
 simp[CK.aZ,CK.cC,bD,AV.au,aj]
def BU(p:Pg)(g:Sg):CK:=⟨aW p,me p,g,[],0,0⟩
theorem ajf{wl aa:Nat}{p:Pg}{g:Sg}{st:ag}{bx:br}:aU wl aa (.box 14) [.val (.agg [aB 2 ((aW p).bL.map gD),cj (aW p).globals,aB 6 ((aW p).sigs.map Sg.row),.int .i64 (me p),bF 1 (jY (aW p).rs),.str g.nm,cj g.ps,.bool g.bg,.int .i64 g.res.b,.int .i64 g.res.r,.int .i64 g.res.d,.U,.int .i64 0,.int .i64 0])] st bx =
  some (.val (.ptr st.length 0 0 0),st++[(BU p g).aZ],bx):=by
 have h:(BU p g).aZ=.rows 0 14 [[aB 2 ((aW p).bL.map gD),cj (aW p).globals,aB 6 ((aW p).sigs.map Sg.row),.int .i64 (me p),bF 1 (jY (aW p).rs),.str g.nm,cj g.ps,.bool g.bg,.int .i64 g.res.b,.int .i64 g.res.r,.int .i64 g.res.d,.U,.int .i64 0,.int .i64 0]]:=by
  simp[CK.aZ,BU,fY]
 rw[h];simp
open N7 U7 in
theorem L7(wl aa:Nat)(p:Pg)(st:ag)(hg:(kO p).ok)(pP:GD.sm (kO p))(fM:∀f∈p.funcs,f.params.length+Sm.eH f.body<1000000000) :
  (aP S).call wl aa 40 [.agg p.row] st=some (sJ p,st):=by
 have em:∀wl aa st,(aP S).call wl aa 69 [.agg p.row] st=some (Gk (kO p),st):=λwl aa st=>FA wl aa (kO p) st hg pP;have hrn:p.aD.length<1000000000:=by have:=pP.aD;rw[tG,abM]at this;exact this
 have Ub:p.funcs.length<1000000000:=by have:=pP.funcs;rw[rA,abM]at this;exact this
 have enm:∀wl aa st,(aP S).call wl aa 70 [.agg p.row] st=some (bF 1 (K9.jY (aW p).rs),st):=λwl aa st=>by
  have:=L2 wl aa (kO p) st hg pP.aD;rw[AQ]at this;exact this
 refine aH (sf:=s40) rfl rfl (by simp[Pg.row,AV.au,AV.ay]) rfl (LN p) ?_;unfold sJ;unfold Gk at em;cases hF:jy (kO p) with
 |some a=>
  rw[hF]at em;simp only[wu,fE,fX,Pg.row]at em ⊢;simp[-an,-af,s40,em,aj,AV.view,ai,ah]
 |none=>
  rw[hF,Wi]at em;simp only[fE,fX,Pg.row,oH]at em enm ⊢;have t1:aL (aB 2 ((aW p).bL.map gD))=true:=bq;have t2:(aB 2 ((aW p).bL.map gD)).view=aB 2 ((aW p).bL.map gD):=bC;have t3:aL (aB 6 ((aW p).sigs.map Sg.row))=true:=bq;have t4:(aB 6 ((aW p).sigs.map Sg.row)).view=aB 6 ((aW p).sigs.map Sg.row):=bC;have t5:bY 6 (aB 6 ((aW p).sigs.map Sg.row))=true:=kU (by simp[bw,Sg.row]);have t6:aJ (aB 6 ((aW p).sigs.map Sg.row))=(aW p).sigs.map Sg.row:=aM;have r1:aL (aB 3 (p.aD.map Rc.row))=true:=bq;have r2:(aB 3 (p.aD.map Rc.row)).view=aB 3 (p.aD.map Rc.row):=bC;have f1:aL (aB 7 (p.funcs.map Fc.row))=true:=bq;have f2:(aB 7 (p.funcs.map Fc.row)).view=aB 7 (p.funcs.map Fc.row):=bC;have f3:bY 7 (aB 7 (p.funcs.map Fc.row))=true:=kU (by simp[bw,Fc.row]);have f4:aJ (aB 7 (p.funcs.map Fc.row))=p.funcs.map Fc.row:=aM;have g1:aL (aB 4 (p.globals.map PD.cells))=true:=bq;have g2:(aB 4 (p.globals.map PD.cells)).view=aB 4 (p.globals.map PD.cells):=bC;have gl1:aL (cj (aW p).globals)=true:=iL;have gl2:(cj (aW p).globals).view=cj (aW p).globals:=mI;have nm1:aL (bF 1 (K9.jY (aW p).rs))=true:=cP;have aay:=λwl aa g st bx=>ajf (wl:=wl) (aa:=aa) (p:=p) (g:=g) (st:=st) (bx:=bx);have jB:(aW p).sigs.length=p.funcs.length:=by simp[aW]
  have ajg:∀g:Sg,g∈(aW p).sigs->BJ ((BU p g).cC g.ps):=λg MF=>by
   have KO:=PX p;have hnl:(fO p).length=p.aD.length:=(by simp[fO]);have Bj:(aW p).globals.length<1000000000:=(by have:=pP.globals;rw[Jj]at this;simpa [aW,nS] using this);have hF:∀s∈(aW p).bL,s.2.length<1000000000:=λs hs=>by
    obtain⟨r,hr,rfl⟩:=List.mem_map.1 hs;have:=pP.bM (LD r) (by rw[tG];exact agH hr);simpa [LD,pW,nS] using this
   have hP:∀s∈(aW p).sigs,s.ps.length<1000000000:=λs hs=>by
    obtain⟨r,hr,rfl⟩:=List.mem_map.1 hs;have:=pP.params (C3 r) (by rw[rA];exact agH hr);simpa [C3,pW,xC,nS] using this
   refine⟨⟨hP g MF,Bj,?_,?_,hF,hP⟩,KO,(KO.sigs g MF).2⟩;show (aW p).sigs.length<_;rw[jB];exact Ub;show (fO p).length<_;rw[hnl];exact hrn
  generalize hHS:aB 2 ((aW p).bL.map gD)=HS at *;generalize hHG:aB 6 ((aW p).sigs.map Sg.row)=HG at *;generalize hGL:cj (aW p).globals=GL at *;generalize aB 3 (p.aD.map Rc.row)=PR at *;generalize aB 7 (p.funcs.map Fc.row)=PF at *;generalize aB 4 (p.globals.map PD.cells)=PG at *;generalize bF 1 (K9.jY (aW p).rs)=NM at *;simp[-an,-af,s40,em,t1,t2,t3,t4,r1,r2,f1,f2,g1,g2,gl1,gl2,aj,AV.view];refine aT UU.eq_1 (λx:Nat×List Bd×ag=>⟨[(1,.fp 0 0),(2,.fp 1 0),(3,.fp 2 0),(4,.fp 3 0),(6,.fp 5 0),(7,.val (.int .i64 x.1))],
    [[PR,PG,PF],[.U,.U,.U,.int .i64 0,.U],[.int .i64 0,.int .i64 0],[HS,GL,HG,.int .i64 (me p)],[.int .i64 0,.int .i64 0],[HS,GL,HG,.int .i64 (me p),bF 3 (x.2.1.map Bd.row)]],x.2.2⟩)
    (λx=>x.1<=p.funcs.length/\x.2.1.length=x.1/\RN x.2.1 (ue (aW p) ((aW p).sigs.drop x.1) (p.funcs.drop x.1))=ue (aW p) (aW p).sigs p.funcs)
    (λx=>p.funcs.length-x.1) (0,[],[]) (by simp[fY]) ⟨by simp,rfl,by simp[RN];split<;>rename_i h<;>exact h.symm⟩ ?_
  rintro⟨k,bs,L8⟩ ⟨hk,hbs,hp⟩ ih;simp only at hk hbs hp ih;by_cases v9:k<p.funcs.length;have uR:k<(aW p).sigs.length:=by omega
  have wA:=wk k (by omega);have gF':∀h:k<(p.funcs.map Fc.row).length,(p.funcs.map Fc.row)[k]=[.str p.funcs[k].name,aB 4 (p.funcs[k].params.map PD.cells),.bool p.funcs[k].bg,.str p.funcs[k].on,.int .i64 p.funcs[k].od,bN p.funcs[k].body,.int .i64 p.funcs[k].a]:=λh=>by simp[Fc.row]
  have MD:∀h:k<((aW p).sigs.map Sg.row).length,((aW p).sigs.map Sg.row)[k]=[.str (aW p).sigs[k].nm,cj (aW p).sigs[k].ps,.bool (aW p).sigs[k].bg,.int .i64 (aW p).sigs[k].res.b,.int .i64 (aW p).sigs[k].res.r,.int .i64 (aW p).sigs[k].res.d]:=λh=>by simp[Sg.row]
  rw[Wj uR v9]at hp;have YL:(aW p).sigs[k].ps.length=p.funcs[k].params.length:=by simp[aW,xC,nS]
  have Oa:=aar uR;have hB:=Jh (pre:=L8) ((BU p (aW p).sigs[k]).cC (aW p).sigs[k].ps) p.funcs[k].body rfl (ajg _ Oa) (by
   have:=fM _ (aar v9);show (aW p).sigs[k].ps.length+_<_;rw[YL];exact this)
  unfold MA at hB;have BS:mO ((BU p (aW p).sigs[k]).cC (aW p).sigs[k].ps).H ((BU p (aW p).sigs[k]).cC (aW p).sigs[k].ps).sg.bg ((BU p (aW p).sigs[k]).cC (aW p).sigs[k].ps).sg.res ((BU p (aW p).sigs[k]).cC (aW p).sigs[k].ps).V p.funcs[k].body=mO (aW p) (aW p).sigs[k].bg (aW p).sigs[k].res (aW p).sigs[k].ps p.funcs[k].body:=rfl;rw[BS]at hB;have nC:∀cs:List AV,cs.length=3->qY 3 56 (bF 3 (bs.map Bd.row)) [cs]=some (bF 3 (bs.map Bd.row++[cs])):=λcs hc=>eB (by simp[bw,hc]) (by simp[dQ];omega);have Ij:(aW p).sigs[k].ps.length<1000000000:=(ajg _ Oa).s.V;have DP:qY 4 40 .U ((aW p).sigs[k].ps.map Vd.row)=some (bF 4 ((aW p).sigs[k].ps.map Vd.row)):=by
   have:=eB (sz:=4) (bytes:=40) (r:=[]) (new:=(aW p).sigs[k].ps.map Vd.row) (by simp[bw,Vd.row]) (by simp[dQ];omega);exact this
  have ep:=λaa bx=>aeL (pre:=L8) (aa:=aa) (c:=BU p (aW p).sigs[k]) (W:=(aW p).sigs[k].ps) (bx:=bx);have aay:=λwl aa bx=>aay wl aa (aW p).sigs[k] L8 bx;have bd1:aL (bN p.funcs[k].body)=true:=cZ;have bd2:(bN p.funcs[k].body).view=bN p.funcs[k].body:=bz;have ps1:aL (aB 4 (p.funcs[k].params.map PD.cells))=true:=bq;have ps2:(aB 4 (p.funcs[k].params.map PD.cells)).view=aB 4 (p.funcs[k].params.map PD.cells):=bC;have sp1:aL (cj (aW p).sigs[k].ps)=true:=iL;have sp2:(cj (aW p).sigs[k].ps).view=cj (aW p).sigs[k].ps:=mI;have sp3:aJ (cj (aW p).sigs[k].ps)=(aW p).sigs[k].ps.map Vd.row:=pK;have BR:∀W,((BU p (aW p).sigs[k]).cC (aW p).sigs[k].ps).cC W=(BU p (aW p).sigs[k]).cC W:=λ_=>rfl;have m1:aL (bF 4 ((aW p).sigs[k].ps.map Vd.row))=true:=cP;generalize WJ:(aW p).sigs.map Sg.row=RS at *;generalize hrF:p.funcs.map Fc.row=RF at *;have WR:k<RS.length:=by rw[<-WJ,abM];exact uR
  have aeM:k<RF.length:=by rw[<-hrF,abM];exact v9
  have Sf:=MD WR;have ajh:=gF' aeM;clear MD gF';cases hR:mO (aW p) (aW p).sigs[k].bg (aW p).sigs[k].res (aW p).sigs[k].ps p.funcs[k].body with
  |error a=>
   rw[hR]at hp hB;simp only at hp hB;obtain⟨W,v,w1,hB2⟩:=hB 0;rw[BR]at hB2;clear hB;have s5:=λaa=>gw (pre:=L8) aa (((BU p (aW p).sigs[k]).cC W).fail a) [];rw[decide_eq_false rB]at s5;have hcf:=λwl aa bx=>aeK (pre:=L8) (wl:=wl) (aa:=aa) (c:=((BU p (aW p).sigs[k]).cC W).fail a) (bx:=bx);have Bm:(((BU p (aW p).sigs[k]).cC W).fail a).fe=3/\(((BU p (aW p).sigs[k]).cC W).fail a).fa=a:=⟨rfl,rfl⟩;rw[Bm.1,Bm.2]at hcf;rw[<-hp];simp only[C4];have w2:aL v.view=true:=(by rw[rK];exact w1);have w3:v.view.view=v.view:=rL v;generalize (((BU p (aW p).sigs[k]).cC W).fail a).aZ=o3 at *;generalize ((BU p (aW p).sigs[k]).cC (aW p).sigs[k].ps).aZ=o2 at *;generalize (BU p (aW p).sigs[k]).aZ=o1 at *;generalize bF 4 ((aW p).sigs[k].ps.map Vd.row)=M4 at *;generalize bN p.funcs[k].body=PB at *;generalize aB 4 (p.funcs[k].params.map PD.cells)=PP at *;generalize cj (aW p).sigs[k].ps=SP at *;generalize p.funcs[k]=fk at *;generalize (aW p).sigs[k]=gk at *;simp[-an,-af,cg,enm,aay,ep,DP,hB2,s5,hcf,f1,f2,f3,f4,t2,t4,t5,t6,gl2,r2,g2,nm1,ajh,Sf,WR,aeM,bd2,sp1,sp2,sp3,ai,ah,aj,AV.view]
  |ok x=>
   obtain⟨cc,W⟩:=x;rw[hR]at hp hB;simp only at hp hB;have hB2:=λaa=>hB aa;clear hB;simp only[BR]at hB2;have kR:=λaa=>gw (pre:=L8) aa ((BU p (aW p).sigs[k]).cC W) [];rw[decide_eq_true (show ((BU p (aW p).sigs[k]).cC W).fe=0 from rfl)]at kR;have Kf:=λwl aa bx=>WH (pre:=L8) (wl:=wl) (aa:=aa) (c:=(BU p (aW p).sigs[k]).cC W) (r:=[]) (bx:=bx);have hvW:((BU p (aW p).sigs[k]).cC W).V=W:=rfl;rw[hvW]at Kf;have fA:=ih (k+1,bs++[⟨W,cc,p.funcs[k].a⟩],L8++[((BU p (aW p).sigs[k]).cC W).aZ]) ⟨by simp only;omega,by simp[hbs],hp⟩ (by simp only;omega);simp only[List.map_append,List.map_cons,List.map_nil,Bd.row]at fA;have w1:aL (cj W)=true:=iL;have w2:(cj W).view=cj W:=mI;have ap:=nC [cj W,bN cc,.int .i64 p.funcs[k].a] rfl;have c1:aL (bF 9 (Sm.rows cc))=true:=cP;have c2:(bF 9 (Sm.rows cc)).view=bN cc:=rfl;have c5:aL (bN cc)=true:=cZ;have c6:(bN cc).view=bN cc:=bz;have n1:aL (bF 3 (bs.map Bd.row++[[cj W,bN cc,.int .i64 p.funcs[k].a]]))=true:=cP;generalize cj W=FW at *;generalize bF 9 (Sm.rows cc)=MC at *;generalize bN cc=SC at *;generalize ((BU p (aW p).sigs[k]).cC W).aZ=o3 at *;generalize ((BU p (aW p).sigs[k]).cC (aW p).sigs[k].ps).aZ=o2 at *;generalize (BU p (aW p).sigs[k]).aZ=o1 at *;generalize bF 4 ((aW p).sigs[k].ps.map Vd.row)=M4 at *;generalize bN p.funcs[k].body=PB at *;generalize aB 4 (p.funcs[k].params.map PD.cells)=PP at *;generalize cj (aW p).sigs[k].ps=SP at *;generalize bF 3 (bs.map Bd.row++[[FW,SC,.int .i64 p.funcs[k].a]])=BN at *;generalize bF 3 (bs.map Bd.row)=BL at *;generalize p.funcs[k]=fk at *;generalize (aW p).sigs[k]=gk at *;simp[-an,-af,cg,wA,enm,aay,ep,DP,hB2,kR,Kf,ap,f1,f2,f3,f4,t2,t4,t5,t6,gl2,r2,g2,nm1,ajh,Sf,WR,aeM,bd2,sp1,sp2,sp3,w1,w2,c1,c2,c5,n1,ai,ah,aj,AV.view];exact fA
  have cL:k=p.funcs.length:=by omega
  have hR:ue (aW p) (aW p).sigs p.funcs=.ok bs:=by
   rw[<-hp,cL,abp,<-jB,abp];simp[ue,RN]
  rw[hR];have n1:aL (bF 3 (bs.map Bd.row))=true:=cP;have n2:(bF 3 (bs.map Bd.row)).view=aB 3 (bs.map Bd.row):=rfl;have n4:aL (aB 3 (bs.map Bd.row))=true:=bq;simp only[C4,oH];rw[hHS,hHG,hGL];generalize bF 3 (bs.map Bd.row)=BL at *;generalize aB 3 (bs.map Bd.row)=BV at *;simp[-an,-af,v9,f1,f2,f4,t1,t2,t3,t4,gl1,gl2,n2,n4,aj,AV.view]
end R9
