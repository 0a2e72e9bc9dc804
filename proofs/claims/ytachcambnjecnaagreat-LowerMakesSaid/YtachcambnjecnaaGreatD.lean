/- Part of a proof. -/
import Derived.Test.YtachcambnjecnaaGreatC
import Derived.Test.YtachcambnjecnaaGreatP
import Derived.Test.YtachcambnjecnaaGreatN

set_option maxRecDepth 100000
set_option maxHeartbeats 8000000
namespace K9
open Ax Go bu V7 jG j9
theorem uM{P:Prop}{es:List E}(h:es.length=1)(hp:∀e,es=[e]->P):P:=by
 match es,h with
 |[e],_=>exact hp e rfl
theorem k8(af:Nat)(c:CK)(s:Sm)(_hn:s.es.length<1000000000):(bh S).call 0 af 120 [.ptr 0 0 0 0,.agg s.row] [c.aT]=some (.bool (cI c.sg.bO s.k s.es),[c.aT]):=by
 have cZ:=Sm.az s;have hz:bX 11 (aI s.es)=true:=iM;have cA:aD (aI s.es)=true:=aQ;have dW:(aI s.es).view=aI s.es:=aN;have cN:aM (aI s.es)=E.rows s.es:=aE;have m0:((s.es.length:Int)=0)=(s.es.length=0):=by simp
 have m1:((s.es.length:Int)=1)=(s.es.length=1):=by apply propext;omega
 have m2:((s.es.length:Int)=2)=(s.es.length=2):=by apply propext;omega
 rw[cZ];generalize s.k=k at *;unfold cI;by_cases h1:k=1;subst h1;refine ay (sf:=oN) rfl rfl rfl ?_;generalize aI s.es=kv at *;simp[-ah,-aa,oN,cA,dW,cN,AV.view];by_cases h4:k=4;subst h4;refine ay (sf:=oN) rfl rfl rfl ?_;simp only[if_neg h1,if_true];match jR:s.es,cN,m2 with
 |[e,e2],cN,m2=>
  rw[jR]at hz cA dW;simp only[E.rows]at cN;rw[E.az e,E.az e2]at cN;generalize aI [e,e2]=kv at *;by_cases q:e.k=5;simp[-ah,-aa,oN,aX,hz,cA,dW,cN,q,AV.view];simp[-ah,-aa,oN,aX,hz,cA,dW,cN,q,AV.view]
 |[],cN,m2=>
  rw[jR]at hz cA dW;generalize aI []=kv at *;simp[-ah,-aa,oN,cA,dW,cN,E.rows,AV.view]
 |[e],cN,m2=>
  rw[jR]at hz cA dW;simp only[E.rows]at cN;generalize aI [e]=kv at *;simp[-ah,-aa,oN,cA,dW,cN,AV.view]
 |e::e2::e3::l,cN,m2=>
  rw[jR]at hz cA dW;have OW:¬((E.rows (e::e2::e3::l)).length:Int)=2:=by simp;omega
  generalize aI (e::e2::e3::l)=kv at *;generalize E.rows (e::e2::e3::l)=rws at *;simp[-ah,-aa,oN,cA,dW,cN,OW,AV.view]
 by_cases h7:k=7;subst h7;refine ay (sf:=oN) rfl rfl rfl ?_;simp only[if_neg h1,if_neg h4,if_true];generalize aI s.es=kv at *;have hc:=λwl af r bx=>wH (wl:=wl) (af:=af) (c:=c) (r:=r) (bx:=bx);cases hh:c.sg.bO with
 |false=>
  rw[hh]at hc;by_cases q1:s.es.length=1;simp[-ah,-aa,oN,cA,dW,cN,q1,hc,AV.view];by_cases q0:s.es.length=0;simp[-ah,-aa,oN,cA,dW,cN,q0,hc,AV.view];simp[-ah,-aa,oN,cA,dW,cN,m1,q0,q1,AV.view]
 |true=>
  rw[hh]at hc;by_cases q1:s.es.length=1;simp[-ah,-aa,oN,cA,dW,cN,q1,hc,AV.view];by_cases q0:s.es.length=0;simp[-ah,-aa,oN,cA,dW,cN,q0,hc,AV.view];simp[-ah,-aa,oN,cA,dW,cN,m1,q0,q1,AV.view]
 by_cases h9:k=9;subst h9;refine ay (sf:=oN) rfl rfl rfl ?_;simp only[if_neg h1,if_neg h4,if_neg h7,if_true];match jR:s.es,cN,m2 with
 |[e],cN,m2=>
  rw[jR]at hz cA dW;simp only[E.rows]at cN;rw[E.az e]at cN;generalize aI [e]=kv at *;simp[-ah,-aa,oN,aX,hz,cA,dW,cN,AV.view]
 |[],cN,m2=>
  rw[jR]at hz cA dW;generalize aI []=kv at *;simp[-ah,-aa,oN,cA,dW,cN,E.rows,AV.view]
 |e::e2::l,cN,m2=>
  rw[jR]at hz cA dW;have OW:¬((E.rows (e::e2::l)).length:Int)=1:=by simp;omega
  generalize aI (e::e2::l)=kv at *;generalize E.rows (e::e2::l)=rws at *;simp[-ah,-aa,oN,cA,dW,cN,OW,AV.view]
 refine ay (sf:=oN) rfl rfl rfl ?_;simp only[if_neg h1,if_neg h4,if_neg h7,if_neg h9];generalize aI s.es=kv at *;by_cases h2:k=2;subst h2;simp[-ah,-aa,oN,cA,dW,cN,m1,AV.view];by_cases h3:k=3;subst h3;simp[-ah,-aa,oN,cA,dW,cN,m1,AV.view];by_cases h5:k=5;subst h5;simp[-ah,-aa,oN,cA,dW,cN,m1,AV.view];by_cases h6:k=6;subst h6;simp[-ah,-aa,oN,cA,dW,cN,m1,AV.view];by_cases h8:k=8;subst h8;simp[-ah,-aa,oN,cA,dW,cN,m1,AV.view];simp[-ah,-aa,oN,h1,h2,h3,h4,h5,h6,h7,h8,h9,cA,AV.view]
def aak(o:Option (Int×List Vd))(v:AV):Prop:=∃z:Int,v=.fm [.int .i64 z,.bool o.isSome]/\∀r W,o=some (r,W)->z=r
def nt(c:CK)(o:Option (Int×List Vd)):CK:=match o with|some (_,W)=>{ c with V:=W } | none=>c
theorem V9(af:Nat)(c:CK)(s:Sm)(t:T3)(hs:oh c)(hf:cI c.sg.bO s.k s.es=true) :
  ∃v,aak (j6 c.H c.sg.bz c.V s.k s.nm s.es t) v/\(bh S).call 0 af 124 [.ptr 0 0 0 0,.agg s.row,.agg [.int .i64 t.b,.int .i64 t.r,.int .i64 t.d]] [c.aT]=some (v,[(nt c (j6 c.H c.sg.bz c.V s.k s.nm s.es t)).aT]):=by
 have eD:=λaf=>Lz af c s.nm t hs;have eV:=λaf=>gK af c s.nm [] hs;have eN:=λwl af st=>Bf wl af st;have eT:=λwl af st=>Ep wl af st;have cZ:=Sm.az s;have hz:bX 11 (aI s.es)=true:=iM;have cA:aD (aI s.es)=true:=aQ;have dW:(aI s.es).view=aI s.es:=aN;have cN:aM (aI s.es)=E.rows s.es:=aE;have one:∀j,s.k=j->(j=2\/j=3\/j=5\/j=6\/j=8)->∃x,s.es=[x]:=λj hj h=>by
  have hlen:s.es.length=1:=by
   rw[hj]at hf;rcases h with h|h|h|h|h<;>subst h<;>simpa [cI] using hf
  match hh:s.es,hlen with
  |[x],_=>exact⟨x,rfl⟩
 have hV:=hs.V;rw[cZ];unfold j6;by_cases h1:s.k=1;rw[if_pos h1,h1];cases hl:eH s.nm 0 c.V with
 |some x=>
  refine⟨.fm [.int .i64 0,.bool false],⟨0,rfl,λ_ _ h=>by cases h⟩,?_⟩;rw[hl]at eD;simp only[Er]at eD;refine ay (sf:=nI) rfl rfl rfl ?_;generalize aI s.es=kv at *;simp[-ah,-aa,nI,eD,cA,nt,AV.view]
 |none=>
  refine⟨.fm [.int .i64 c.V.length,.bool true],⟨c.V.length,rfl,λ_ _ h=>by cases h;rfl⟩,?_⟩;rw[hl]at eD;simp only[Er]at eD;simp only[nt];refine ay (sf:=nI) rfl rfl rfl ?_;generalize aI s.es=kv at *;generalize ({ c with V:=c.V++[(⟨s.nm,t⟩:Vd)] }:CK).aT=Yj at *;simp[-ah,-aa,nI,eD,cA,AV.view]
 rw[if_neg h1];by_cases h2:s.k=2;obtain⟨x,hx⟩:=one 2 h2 (by simp);rw[if_pos h2,h2];have a1:qP s.es=x.ty:=by rw[hx];rfl
 rw[a1];rw[show E.rows s.es=E.rows [x] from by rw[hx]]at cN;simp only[E.rows,E.az]at cN;generalize aI s.es=kv at *;by_cases q:x.ty=t;rw[if_pos q];rw[<-q]at eD ⊢;cases hl:eH s.nm 0 c.V with
 |some y=>
  refine⟨.fm [.int .i64 0,.bool false],⟨0,rfl,λ_ _ h=>by cases h⟩,?_⟩;rw[hl]at eD;simp only[Er]at eD;refine ay (sf:=nI) rfl rfl rfl ?_;simp[-ah,-aa,nI,eD,hz,cA,dW,cN,aX,nt,AV.view,au,an]
 |none=>
  refine⟨.fm [.int .i64 c.V.length,.bool true],⟨c.V.length,rfl,λ_ _ h=>by cases h;rfl⟩,?_⟩;rw[hl]at eD;simp only[Er]at eD;simp only[nt];refine ay (sf:=nI) rfl rfl rfl ?_;generalize ({ c with V:=c.V++[(⟨s.nm,x.ty⟩:Vd)] }:CK).aT=Yj at *;simp[-ah,-aa,nI,eD,hz,cA,dW,cN,aX,AV.view,au,an]
 rw[if_neg q];refine⟨.fm [.int .i64 0,.bool false],⟨0,rfl,λ_ _ h=>by cases h⟩,?_⟩;refine ay (sf:=nI) rfl rfl rfl ?_;simp[-ah,-aa,nI,hz,cA,dW,cN,aX,dU,q,nt,AV.view,au,an];rw[if_neg h2];by_cases h3:s.k=3;obtain⟨x,hx⟩:=one 3 h3 (by simp);rw[if_pos h3,h3];have a1:qP s.es=x.ty:=by rw[hx];rfl
 rw[a1];rw[show E.rows s.es=E.rows [x] from by rw[hx]]at cN;simp only[E.rows,E.az]at cN;generalize aI s.es=kv at *;cases hv:rX c.H c.V s.nm with
 |none=>
  refine⟨.fm [.int .i64 0,.bool false],⟨0,rfl,λ_ _ h=>by cases h⟩,?_⟩;rw[hv]at eV;simp only[wI]at eV;refine ay (sf:=nI) rfl rfl rfl ?_;simp[-ah,-aa,nI,eV,cA,nt,ag,AV.view,au,an]
 |some y=>
  obtain⟨u,r⟩:=y;rw[hv]at eV;simp only[wI]at eV;by_cases q:u=x.ty;refine⟨.fm [.int .i64 r,.bool true],⟨r,by simp[q],λ_ _ h=>by simp[q]at h;exact h.1⟩,?_⟩;simp only[if_pos q];refine ay (sf:=nI) rfl rfl rfl ?_;simp[-ah,-aa,nI,eV,hz,cA,dW,cN,aX,q,nt,ag,AV.view,au,an];refine⟨.fm [.int .i64 r,.bool false],⟨r,by simp[q],λ_ _ h=>by simp[q]at h⟩,?_⟩;simp only[if_neg q];refine ay (sf:=nI) rfl rfl rfl ?_;simp[-ah,-aa,nI,eV,hz,cA,dW,cN,aX,dU,q,nt,ag,AV.view,au,an]
 rw[if_neg h3];have lG:∀(p:Prop) [Decidable p],aak (if p then some ((0:Int),c.V) else none) (.fm [.int .i64 0,.bool (decide p)]):=λp _=>by
  refine⟨0,?_,λr W h=>?_⟩;by_cases q:p<;>simp[q];split at h<;>cases h;rfl
 have S3:∀(p:Prop) [Decidable p],nt c (if p then some ((0:Int),c.V) else none)=c:=λp _=>by
  by_cases q:p<;>simp[q,nt]
 by_cases h4:s.k=4;rw[if_pos h4,h4];obtain⟨x,y,hx⟩:∃x y,s.es=[x,y]:=by
  rw[h4]at hf;unfold cI at hf;match hh:s.es,hf with
  |[x,y],_=>exact⟨x,y,rfl⟩
 have a1:qP s.es=x.ty:=by rw[hx];rfl
 have a2:BY s.es=y.ty:=by rw[hx];rfl
 rw[a1,a2];rw[show E.rows s.es=E.rows [x,y] from by rw[hx]]at cN;simp only[E.rows,E.az]at cN;generalize aI s.es=kv at *;refine⟨_,lG _,?_⟩;rw[S3];refine ay (sf:=nI) rfl rfl rfl ?_;simp[-ah,-aa,nI,hz,cA,dW,cN,aX,dU,AV.view,au,an];rw[if_neg h4];by_cases h5:s.k=5;obtain⟨x,hx⟩:=one 5 h5 (by simp);rw[if_pos (.inl h5),h5];have a1:qP s.es=x.ty:=by rw[hx];rfl
 rw[a1];rw[show E.rows s.es=E.rows [x] from by rw[hx]]at cN;simp only[E.rows,E.az]at cN;generalize aI s.es=kv at *;refine⟨_,lG _,?_⟩;rw[S3];refine ay (sf:=nI) rfl rfl rfl ?_;simp[-ah,-aa,nI,hz,cA,dW,cN,aX,eT,dB,AV.view,au,an];by_cases h6:s.k=6;obtain⟨x,hx⟩:=one 6 h6 (by simp);rw[if_pos (.inr h6),h6];have a1:qP s.es=x.ty:=by rw[hx];rfl
 rw[a1];rw[show E.rows s.es=E.rows [x] from by rw[hx]]at cN;simp only[E.rows,E.az]at cN;generalize aI s.es=kv at *;refine⟨_,lG _,?_⟩;rw[S3];refine ay (sf:=nI) rfl rfl rfl ?_;simp[-ah,-aa,nI,hz,cA,dW,cN,aX,eT,dB,AV.view,au,an];rw[if_neg (λh=>h.elim h5 h6)];by_cases h7:s.k=7;rw[if_pos h7,h7];refine⟨_,lG _,?_⟩;rw[S3];rw[h7]at hf;refine ay (sf:=nI) rfl rfl rfl ?_;match jR:s.es with
 |[]=>
  rw[jR]at hz cA dW cN;generalize aI []=kv at *;simp[-ah,-aa,nI,cA,dW,cN,E.rows,AV.view,au,an]
 |[x]=>
  rw[jR]at hz cA dW cN;simp only[E.rows,E.az]at cN;generalize aI [x]=kv at *;have a1:qP [x]=x.ty:=rfl;have cr:=λwl af r bx=>yw (wl:=wl) (af:=af) (c:=c) (r:=r) (bx:=bx);simp[-ah,-aa,nI,hz,cA,dW,cN,aX,cr,dU,a1,AV.view,au,an]
 |x::y::l=>
  rw[jR]at hf;simp[cI]at hf
 rw[if_neg h7];by_cases h8:s.k=8;obtain⟨x,hx⟩:=one 8 h8 (by simp);rw[if_pos h8,h8];have a1:qP s.es=x.ty:=by rw[hx];rfl
 rw[a1];rw[show E.rows s.es=E.rows [x] from by rw[hx]]at cN;simp only[E.rows,E.az]at cN;generalize aI s.es=kv at *;refine⟨_,lG _,?_⟩;rw[S3];refine ay (sf:=nI) rfl rfl rfl ?_;simp[-ah,-aa,nI,hz,cA,dW,cN,aX,eN,dI,AV.view,au,an];rw[if_neg h8];refine⟨.fm [.int .i64 0,.bool true],⟨0,rfl,λ_ _ h=>by cases h;rfl⟩,?_⟩;simp only[nt];refine ay (sf:=nI) rfl rfl rfl ?_;generalize aI s.es=kv at *;simp[-ah,-aa,nI,h1,h2,h3,h4,h5,h6,h7,h8,cA,AV.view]
end K9
namespace K9
open Ax Go bu V7 jG j9
def CK.aZ(c:CK)(W:List Vd):CK:={ c with V:=W }
def Ev(r:List AV):Prop:=∃(k:Int)(nm on:List UInt8)(od:Int)(es bd el:AV)(a cG:Int),r=[.int .i64 k,.str nm,.str on,.int .i64 od,es,bd,el,.int .i64 a,.int .i64 cG]/\aD es=true/\aD bd=true/\aD el=true
abbrev Z9:List AV:=[.int .i64 0,.str [],.str [],.int .i64 0,.U,.U,.U,.int .i64 0,.int .i64 0]
theorem sZ:Ev Z9:=⟨0,[],[],0,.U,.U,.U,0,0,rfl,rfl,rfl,rfl⟩
def qE(c:CK)(s:Sm):Prop:=match xU c.H c.sg.bO c.sg.bz c.V s with
 |.ok (y,W)=>∀af,(bh S).call 0 af 100 [.ptr 0 0 0 0,.agg s.row] [c.aT]=some (.agg y.row,[(c.aZ W).aT])|.error a=>∀af,∃W row,Ev row/\(bh S).call 0 af 100 [.ptr 0 0 0 0,.agg s.row] [c.aT]=some (.agg row,[((c.aZ W).fail a).aT])
def AJ(c:CK)(l:List Sm):Prop:=match ki c.H c.sg.bO c.sg.bz c.V l with
 |.ok (ys,W)=>∀af,(bh S).call 0 af 83 [.ptr 0 0 0 0,aS l] [c.aT]=some (bD 9 (Sm.rows ys),[(c.aZ W).aT])|.error a=>∀af,∃W v,aD v=true/\(bh S).call 0 af 83 [.ptr 0 0 0 0,aS l] [c.aT]=some (v,[((c.aZ W).fail a).aT])
theorem xI{c:CK}{W:List Vd}(h:pS c)(hW:∀f∈W,WT c.H.rs.length f.ty)(hl:W.length<1000000000):pS (c.aZ W):=⟨⟨hl,h.s.G,h.s.S,h.s.R,h.s.F,h.s.P⟩,h.H,hW⟩
theorem xJ(af:Nat)(c:CK)(l:List Sm)(hf:c.fe≠0)(hn:l.length<1000000000):(bh S).call 0 af 83 [.ptr 0 0 0 0,aS l] [c.aT]=some (.U,[c.aT]):=by
 have hz:bX 9 (aS l)=true:=Aj;have cA:aD (aS l)=true:=bn;have dW:(aS l).view=aS l:=aO;have cN:aM (aS l)=Sm.rows l:=aE;have gr:=λaf=>cT af c [];rw[decide_eq_false hf]at gr;refine ay (sf:=XG) rfl rfl rfl ?_;cases l with
 |nil=>
  generalize aS []=lv at *;rw[Sm.rows]at cN;simp[-ah,-aa,XG,cA,dW,cN];rw[qx DT.eq_1];simp[-ah,-aa]
 |cons s l=>
  have hlen:0<(Sm.rows (s::l)).length:=by simp
  have hg:(Sm.rows (s::l))[0]?=some s.row:=by simp[Sm.rows]
  have xY:∀h:0<(Sm.rows (s::l)).length,(Sm.rows (s::l))[0]=s.row:=λh=>by simp[Sm.rows]
  generalize aS (s::l)=lv at *;generalize Sm.rows (s::l)=rws at *;rw[Sm.az]at hg;have XS:0<rws.length:=hlen;have aeO:=xY XS;rw[Sm.az]at aeO;simp[-ah,-aa,XG,cA,dW,cN];rw[qx DT.eq_1];simp[-ah,-aa,dW,cN,hz,XS,aeO,aX,gr,ag,AV.view]
theorem qF(af:Nat)(c:CK)(k:Int)(nm on:List UInt8)(od:Int)(ys:List E)(a:Int)(t:T3)(hs:oh c)(hf:cI c.sg.bO k ys=true) :
  ∃v,aak (j6 c.H c.sg.bz c.V k nm ys t) v/\(bh S).call 0 af 124 [.ptr 0 0 0 0,.agg (Sm.mk k nm on od ys [] [] a 0).row,.agg [.int .i64 t.b,.int .i64 t.r,.int .i64 t.d]] [c.aT]=some (v,[(nt c (j6 c.H c.sg.bz c.V k nm ys t)).aT]):=
 V9 af c (.mk k nm on od ys [] [] a 0) t hs hf
theorem aal(c:CK)(s:Sm)(hn:s.es.length<1000000000)(h:cI c.sg.bO s.k s.es=false):qE c s:=by
 unfold qE;rw[nk,h];simp only[Bool.false_eq_true,if_false];intro af;refine⟨c.V,Z9,sZ,?_⟩;have nA:=λaf=>k8 af c s hn;rw[h]at nA;have en:=λwl af st=>lC wl af st;have oy:=λaf=>eW af c s.a [];have jO:c.aZ c.V=c:=rfl;rw[jO];rw[Sm.az s]at nA ⊢;generalize (c.fail s.a).aT=o at *;refine ay (sf:=fL) rfl rfl rfl ?_;simp[-ah,-aa,fL,nA,en,oy,ag,AV.view,AV.ax,AV.ai,aU,bG]
theorem LF(c:CK)(s:Sm)(hf:c.fe=0)(hw:pS c)(dF:c.V.length+Sm.sz s<1000000000)(hk:s.k=1)(h:cI c.sg.bO s.k s.es=true):qE c s:=by
 unfold qE;have hz:=Sm.jM s;have E4:=E.dD s.es;have nA:=λaf=>k8 af c s (by omega);rw[h]at nA;have en:=λwl af st=>lC wl af st;have oy:=λaf=>eW af c s.a [];have fy:=λaf=>cT af c [];rw[decide_eq_true hf]at fy;have jO:c.aZ c.V=c:=rfl;have cZ:=Sm.az s;rw[hk]at cZ;rw[nk,h];rw[hk]at h ⊢;simp only[if_true];rw[cZ]at nA ⊢;have e1:aD (aI s.es)=true:=aQ;have e2:(aI s.es).view=aI s.es:=aN;have b1:aD (aS s.bd)=true:=bn;have b2:(aS s.bd).view=aS s.bd:=aO;have l1:aD (aS s.el)=true:=bn;have l2:(aS s.el).view=aS s.el:=aO;have cY:=mB c s.es hf (by omega) (λe he=>eP c hf hw e (by have:=E.iA he;omega));have wK:td c.H c.V 1 s.es=kM c.H c.V s.es:=sX (by decide);have pQ:=λwl af st=>Ad wl af c.H.rs s.on s.od st hw.s.R;have JX:kS c.H 1 s.on s.od=if (bZ c.H.rs s.on s.od).2 then some (bZ c.H.rs s.on s.od).1 else none:=if_pos (by decide)
 rw[JX];unfold LA at pQ;have XQ:=mX c.H.rs s.on s.od;generalize bZ c.H.rs s.on s.od=tt at *;obtain⟨t,b⟩:=tt;cases b with
 |false=>
  simp only[Bool.false_eq_true,if_false];intro af;refine⟨c.V,Z9,sZ,?_⟩;rw[jO];simp only at pQ;generalize aI s.es=ev at *;generalize aS s.bd=bv at *;generalize aS s.el=lv at *;generalize (c.fail s.a).aT=o at *;refine ay (sf:=fL) rfl rfl rfl ?_;simp[-ah,-aa,fL,nA,en,e1,e2,b1,b2,l1,l2,uL,pQ,oy,ag,AV.view,AV.ax,AV.ai,au,aU,bG,an]
 |true=>
 simp only[if_true];simp only at pQ;rw[wK];cases hv:kM c.H c.V s.es with
 |error a=>
  rw[hv]at cY;simp only at cY ⊢;intro af;refine⟨c.V,Z9,sZ,?_⟩;rw[jO];obtain⟨v,cA,ev⟩:=cY 1;have Ff:=bU cA;have Co:=ck cA;have gr:=λaf=>cT af (c.fail a) [];rw[decide_eq_false fV]at gr;generalize aI s.es=kv at *;generalize aS s.bd=bv at *;generalize aS s.el=lv at *;generalize (c.fail a).aT=o at *;refine ay (sf:=fL) rfl rfl rfl ?_;simp[-ah,-aa,fL,nA,en,e1,e2,b1,b2,l1,l2,uL,pQ,ev,cA,gr,ag,AV.view,AV.ax,AV.ai,au,aU,bG,an]
 |ok ys=>
  rw[hv]at cY;simp only at cY ⊢;have pT:cI c.sg.bO 1 ys=true:=nZ hv h;obtain⟨fv,⟨z,rfl,o8⟩,dn⟩:=qF 1 c 1 (cv 1 s.nm) (bH 1 s.on) (bJ 1 s.od) ys s.a t hw.s pT;simp only[n6]at o8 dn;have mF:(Sm.mk 1 (cv 1 s.nm) (bH 1 s.on) (bJ 1 s.od) ys [] [] s.a 0).row=[.int .i64 1,.str s.nm,.str s.on,.int .i64 s.od,aI ys,.U,.U,.int .i64 s.a,.int .i64 0]:=by simp[Sm.row,Sm.rows,cv,bH,bJ]
  rw[mF]at dn;have m1:aD (bD 11 (E.rows ys))=true:=bY;have m2:(bD 11 (E.rows ys)).view=aI ys:=rfl;generalize bD 11 (E.rows ys)=mv at *;have m3:=bU m1;have m4:=ck m1;have y1:aD (aI ys)=true:=aQ;have y2:(aI ys).view=aI ys:=aN;generalize B0:aI ys=yv at *;generalize aI s.es=kv at *;cases hT:j6 c.H c.sg.bz c.V 1 s.nm ys t with
  |none=>
   simp only;intro af;refine⟨c.V,Z9,sZ,?_⟩;rw[jO];rw[hT]at dn;simp only[Option.isSome_none,nt]at dn;generalize aS s.bd=bv at *;generalize aS s.el=lv at *;generalize (c.fail s.a).aT=o at *;refine ay (sf:=fL) rfl rfl rfl ?_;simp[-ah,-aa,fL,nA,en,e1,e2,b1,b2,l1,l2,uL,pQ,cY,m1,m2,fy,dn,oy,ag,AV.view,AV.ax,AV.ai,au,aU,bG,an]
  |some x=>
   obtain⟨r,W⟩:=x;have o8:=o8 r W hT;subst o8;rw[hT]at dn;simp only[Option.isSome_some,nt]at dn;have JY:({ c with V:=W }:CK)=c.aZ W:=rfl;rw[JY]at dn;simp only[show ¬((1:Int)=5) from by decide,show ¬((1:Int)=6) from by decide,if_false];intro af;have vq:(Sm.mk 1 (cv 1 s.nm) (bH 1 s.on) (bJ 1 s.od) ys [] [] s.a z).row=[.int .i64 1,.str s.nm,.str s.on,.int .i64 s.od,yv,.U,.U,.int .i64 s.a,.int .i64 z]:=(by simp[Sm.row,Sm.rows,cv,bH,bJ,B0]);show _=some (AV.agg (Sm.mk 1 (cv 1 s.nm) (bH 1 s.on) (bJ 1 s.od) ys [] [] s.a z).row,_);rw[vq];generalize aS s.bd=bv at *;generalize aS s.el=lv at *;generalize (c.aZ W).aT=o at *;refine ay (sf:=fL) rfl rfl rfl ?_;simp[-ah,-aa,fL,nA,en,e1,e2,b1,b2,l1,l2,uL,pQ,cY,m1,m2,y1,fy,dn,ag,AV.view,AV.ax,AV.ai,au,aU,bG,an]
theorem LH(c:CK)(s:Sm)(hf:c.fe=0)(hw:pS c)(dF:c.V.length+Sm.sz s<1000000000)(hk:s.k=2)(h:cI c.sg.bO s.k s.es=true):qE c s:=by
 unfold qE;have hz:=Sm.jM s;have E4:=E.dD s.es;have nA:=λaf=>k8 af c s (by omega);rw[h]at nA;have en:=λwl af st=>lC wl af st;have oy:=λaf=>eW af c s.a [];have fy:=λaf=>cT af c [];rw[decide_eq_true hf]at fy;have jO:c.aZ c.V=c:=rfl;have cZ:=Sm.az s;rw[hk]at cZ;rw[nk,h];rw[hk]at h ⊢;simp only[if_true];rw[cZ]at nA ⊢;have e1:aD (aI s.es)=true:=aQ;have e2:(aI s.es).view=aI s.es:=aN;have b1:aD (aS s.bd)=true:=bn;have b2:(aS s.bd).view=aS s.bd:=aO;have l1:aD (aS s.el)=true:=bn;have l2:(aS s.el).view=aS s.el:=aO;have cY:=mB c s.es hf (by omega) (λe he=>eP c hf hw e (by have:=E.iA he;omega));have wK:td c.H c.V 2 s.es=kM c.H c.V s.es:=sX (by decide);have pQ:=λwl af st=>Ad wl af c.H.rs s.on s.od st hw.s.R;have JX:kS c.H 2 s.on s.od=if (bZ c.H.rs s.on s.od).2 then some (bZ c.H.rs s.on s.od).1 else none:=if_pos (by decide)
 rw[JX];unfold LA at pQ;have XQ:=mX c.H.rs s.on s.od;generalize bZ c.H.rs s.on s.od=tt at *;obtain⟨t,b⟩:=tt;cases b with
 |false=>
  simp only[Bool.false_eq_true,if_false];intro af;refine⟨c.V,Z9,sZ,?_⟩;rw[jO];simp only at pQ;generalize aI s.es=ev at *;generalize aS s.bd=bv at *;generalize aS s.el=lv at *;generalize (c.fail s.a).aT=o at *;refine ay (sf:=fL) rfl rfl rfl ?_;simp[-ah,-aa,fL,nA,en,e1,e2,b1,b2,l1,l2,uL,pQ,oy,ag,AV.view,AV.ax,AV.ai,au,aU,bG,an]
 |true=>
 simp only[if_true];simp only at pQ;rw[wK];cases hv:kM c.H c.V s.es with
 |error a=>
  rw[hv]at cY;simp only at cY ⊢;intro af;refine⟨c.V,Z9,sZ,?_⟩;rw[jO];obtain⟨v,cA,ev⟩:=cY 1;have Ff:=bU cA;have Co:=ck cA;have gr:=λaf=>cT af (c.fail a) [];rw[decide_eq_false fV]at gr;generalize aI s.es=kv at *;generalize aS s.bd=bv at *;generalize aS s.el=lv at *;generalize (c.fail a).aT=o at *;refine ay (sf:=fL) rfl rfl rfl ?_;simp[-ah,-aa,fL,nA,en,e1,e2,b1,b2,l1,l2,uL,pQ,ev,cA,gr,ag,AV.view,AV.ax,AV.ai,au,aU,bG,an]
 |ok ys=>
  rw[hv]at cY;simp only at cY ⊢;have pT:cI c.sg.bO 2 ys=true:=nZ hv h;obtain⟨fv,⟨z,rfl,o8⟩,dn⟩:=qF 1 c 2 (cv 2 s.nm) (bH 2 s.on) (bJ 2 s.od) ys s.a t hw.s pT;simp only[n6]at o8 dn;have mF:(Sm.mk 2 (cv 2 s.nm) (bH 2 s.on) (bJ 2 s.od) ys [] [] s.a 0).row=[.int .i64 2,.str s.nm,.str s.on,.int .i64 s.od,aI ys,.U,.U,.int .i64 s.a,.int .i64 0]:=by simp[Sm.row,Sm.rows,cv,bH,bJ]
  rw[mF]at dn;have m1:aD (bD 11 (E.rows ys))=true:=bY;have m2:(bD 11 (E.rows ys)).view=aI ys:=rfl;generalize bD 11 (E.rows ys)=mv at *;have m3:=bU m1;have m4:=ck m1;have y1:aD (aI ys)=true:=aQ;have y2:(aI ys).view=aI ys:=aN;generalize B0:aI ys=yv at *;generalize aI s.es=kv at *;cases hT:j6 c.H c.sg.bz c.V 2 s.nm ys t with
  |none=>
   simp only;intro af;refine⟨c.V,Z9,sZ,?_⟩;rw[jO];rw[hT]at dn;simp only[Option.isSome_none,nt]at dn;generalize aS s.bd=bv at *;generalize aS s.el=lv at *;generalize (c.fail s.a).aT=o at *;refine ay (sf:=fL) rfl rfl rfl ?_;simp[-ah,-aa,fL,nA,en,e1,e2,b1,b2,l1,l2,uL,pQ,cY,m1,m2,fy,dn,oy,ag,AV.view,AV.ax,AV.ai,au,aU,bG,an]
  |some x=>
   obtain⟨r,W⟩:=x;have o8:=o8 r W hT;subst o8;rw[hT]at dn;simp only[Option.isSome_some,nt]at dn;have JY:({ c with V:=W }:CK)=c.aZ W:=rfl;rw[JY]at dn;simp only[show ¬((2:Int)=5) from by decide,show ¬((2:Int)=6) from by decide,if_false];intro af;have vq:(Sm.mk 2 (cv 2 s.nm) (bH 2 s.on) (bJ 2 s.od) ys [] [] s.a z).row=[.int .i64 2,.str s.nm,.str s.on,.int .i64 s.od,yv,.U,.U,.int .i64 s.a,.int .i64 z]:=(by simp[Sm.row,Sm.rows,cv,bH,bJ,B0]);show _=some (AV.agg (Sm.mk 2 (cv 2 s.nm) (bH 2 s.on) (bJ 2 s.od) ys [] [] s.a z).row,_);rw[vq];generalize aS s.bd=bv at *;generalize aS s.el=lv at *;generalize (c.aZ W).aT=o at *;refine ay (sf:=fL) rfl rfl rfl ?_;simp[-ah,-aa,fL,nA,en,e1,e2,b1,b2,l1,l2,uL,pQ,cY,m1,m2,y1,fy,dn,ag,AV.view,AV.ax,AV.ai,au,aU,bG,an]
theorem LI(c:CK)(s:Sm)(hf:c.fe=0)(hw:pS c)(dF:c.V.length+Sm.sz s<1000000000)(hk:s.k=3)(h:cI c.sg.bO s.k s.es=true):qE c s:=by
 unfold qE;have hz:=Sm.jM s;have E4:=E.dD s.es;have nA:=λaf=>k8 af c s (by omega);rw[h]at nA;have en:=λwl af st=>lC wl af st;have oy:=λaf=>eW af c s.a [];have fy:=λaf=>cT af c [];rw[decide_eq_true hf]at fy;have jO:c.aZ c.V=c:=rfl;have cZ:=Sm.az s;rw[hk]at cZ;rw[nk,h];rw[hk]at h ⊢;simp only[if_true];rw[cZ]at nA ⊢;have e1:aD (aI s.es)=true:=aQ;have e2:(aI s.es).view=aI s.es:=aN;have b1:aD (aS s.bd)=true:=bn;have b2:(aS s.bd).view=aS s.bd:=aO;have l1:aD (aS s.el)=true:=bn;have l2:(aS s.el).view=aS s.el:=aO;have cY:=mB c s.es hf (by omega) (λe he=>eP c hf hw e (by have:=E.iA he;omega));have wK:td c.H c.V 3 s.es=kM c.H c.V s.es:=sX (by decide);have JX:kS c.H 3 s.on s.od=some T0:=if_neg (by decide);rw[JX];simp only;rw[wK];cases hv:kM c.H c.V s.es with
 |error a=>
  rw[hv]at cY;simp only at cY ⊢;intro af;refine⟨c.V,Z9,sZ,?_⟩;rw[jO];obtain⟨v,cA,ev⟩:=cY 1;have Ff:=bU cA;have Co:=ck cA;have gr:=λaf=>cT af (c.fail a) [];rw[decide_eq_false fV]at gr;generalize aI s.es=kv at *;generalize aS s.bd=bv at *;generalize aS s.el=lv at *;generalize (c.fail a).aT=o at *;refine ay (sf:=fL) rfl rfl rfl ?_;simp[-ah,-aa,fL,nA,en,e1,e2,b1,b2,l1,l2,ev,cA,gr,ag,AV.view,AV.ax,AV.ai,aU,bG]
 |ok ys=>
  rw[hv]at cY;simp only at cY ⊢;have pT:cI c.sg.bO 3 ys=true:=nZ hv h;obtain⟨fv,⟨z,rfl,o8⟩,dn⟩:=qF 1 c 3 (cv 3 s.nm) (bH 3 s.on) (bJ 3 s.od) ys s.a T0 hw.s pT;simp only[n6]at o8 dn;have mF:(Sm.mk 3 (cv 3 s.nm) (bH 3 s.on) (bJ 3 s.od) ys [] [] s.a 0).row=[.int .i64 3,.str s.nm,.str [],.int .i64 0,aI ys,.U,.U,.int .i64 s.a,.int .i64 0]:=by simp[Sm.row,Sm.rows,cv,bH,bJ]
  rw[mF]at dn;have m1:aD (bD 11 (E.rows ys))=true:=bY;have m2:(bD 11 (E.rows ys)).view=aI ys:=rfl;generalize bD 11 (E.rows ys)=mv at *;have m3:=bU m1;have m4:=ck m1;have y1:aD (aI ys)=true:=aQ;have y2:(aI ys).view=aI ys:=aN;generalize B0:aI ys=yv at *;generalize aI s.es=kv at *;cases hT:j6 c.H c.sg.bz c.V 3 s.nm ys T0 with
  |none=>
   simp only;intro af;refine⟨c.V,Z9,sZ,?_⟩;rw[jO];rw[hT]at dn;simp only[Option.isSome_none,nt]at dn;generalize aS s.bd=bv at *;generalize aS s.el=lv at *;generalize (c.fail s.a).aT=o at *;refine ay (sf:=fL) rfl rfl rfl ?_;simp[-ah,-aa,fL,nA,en,e1,e2,b1,b2,l1,l2,cY,m1,m2,fy,dn,oy,ag,AV.view,AV.ax,AV.ai,aU,bG]
  |some x=>
   obtain⟨r,W⟩:=x;have o8:=o8 r W hT;subst o8;rw[hT]at dn;simp only[Option.isSome_some,nt]at dn;have JY:({ c with V:=W }:CK)=c.aZ W:=rfl;rw[JY]at dn;simp only[show ¬((3:Int)=5) from by decide,show ¬((3:Int)=6) from by decide,if_false];intro af;have vq:(Sm.mk 3 (cv 3 s.nm) (bH 3 s.on) (bJ 3 s.od) ys [] [] s.a z).row=[.int .i64 3,.str s.nm,.str [],.int .i64 0,yv,.U,.U,.int .i64 s.a,.int .i64 z]:=(by simp[Sm.row,Sm.rows,cv,bH,bJ,B0]);show _=some (AV.agg (Sm.mk 3 (cv 3 s.nm) (bH 3 s.on) (bJ 3 s.od) ys [] [] s.a z).row,_);rw[vq];generalize aS s.bd=bv at *;generalize aS s.el=lv at *;generalize (c.aZ W).aT=o at *;refine ay (sf:=fL) rfl rfl rfl ?_;simp[-ah,-aa,fL,nA,en,e1,e2,b1,b2,l1,l2,cY,m1,m2,y1,fy,dn,ag,AV.view,AV.ax,AV.ai,aU,bG]
theorem LJ(c:CK)(s:Sm)(hf:c.fe=0)(hw:pS c)(dF:c.V.length+Sm.sz s<1000000000)(hk:s.k=4)(h:cI c.sg.bO s.k s.es=true):qE c s:=by
 unfold qE;have hz:=Sm.jM s;have E4:=E.dD s.es;have nA:=λaf=>k8 af c s (by omega);rw[h]at nA;have en:=λwl af st=>lC wl af st;have oy:=λaf=>eW af c s.a [];have fy:=λaf=>cT af c [];rw[decide_eq_true hf]at fy;have jO:c.aZ c.V=c:=rfl;have cZ:=Sm.az s;rw[hk]at cZ;rw[nk,h];rw[hk]at h ⊢;simp only[if_true];rw[cZ]at nA ⊢;have e1:aD (aI s.es)=true:=aQ;have e2:(aI s.es).view=aI s.es:=aN;have b1:aD (aS s.bd)=true:=bn;have b2:(aS s.bd).view=aS s.bd:=aO;have l1:aD (aS s.el)=true:=bn;have l2:(aS s.el).view=aS s.el:=aO;have cY:=mB c s.es hf (by omega) (λe he=>eP c hf hw e (by have:=E.iA he;omega));have wK:td c.H c.V 4 s.es=kM c.H c.V s.es:=sX (by decide);have JX:kS c.H 4 s.on s.od=some T0:=if_neg (by decide);rw[JX];simp only;rw[wK];cases hv:kM c.H c.V s.es with
 |error a=>
  rw[hv]at cY;simp only at cY ⊢;intro af;refine⟨c.V,Z9,sZ,?_⟩;rw[jO];obtain⟨v,cA,ev⟩:=cY 1;have Ff:=bU cA;have Co:=ck cA;have gr:=λaf=>cT af (c.fail a) [];rw[decide_eq_false fV]at gr;generalize aI s.es=kv at *;generalize aS s.bd=bv at *;generalize aS s.el=lv at *;generalize (c.fail a).aT=o at *;refine ay (sf:=fL) rfl rfl rfl ?_;simp[-ah,-aa,fL,nA,en,e1,e2,b1,b2,l1,l2,ev,cA,gr,ag,AV.view,AV.ax,AV.ai,aU,bG]
 |ok ys=>
  rw[hv]at cY;simp only at cY ⊢;have pT:cI c.sg.bO 4 ys=true:=nZ hv h;obtain⟨fv,⟨z,rfl,o8⟩,dn⟩:=qF 1 c 4 (cv 4 s.nm) (bH 4 s.on) (bJ 4 s.od) ys s.a T0 hw.s pT;simp only[n6]at o8 dn;have mF:(Sm.mk 4 (cv 4 s.nm) (bH 4 s.on) (bJ 4 s.od) ys [] [] s.a 0).row=[.int .i64 4,.str [],.str [],.int .i64 0,aI ys,.U,.U,.int .i64 s.a,.int .i64 0]:=by simp[Sm.row,Sm.rows,cv,bH,bJ]
  rw[mF]at dn;have m1:aD (bD 11 (E.rows ys))=true:=bY;have m2:(bD 11 (E.rows ys)).view=aI ys:=rfl;generalize bD 11 (E.rows ys)=mv at *;have m3:=bU m1;have m4:=ck m1;have y1:aD (aI ys)=true:=aQ;have y2:(aI ys).view=aI ys:=aN;generalize B0:aI ys=yv at *;generalize aI s.es=kv at *;cases hT:j6 c.H c.sg.bz c.V 4 s.nm ys T0 with
  |none=>
   simp only;intro af;refine⟨c.V,Z9,sZ,?_⟩;rw[jO];rw[hT]at dn;simp only[Option.isSome_none,nt]at dn;generalize aS s.bd=bv at *;generalize aS s.el=lv at *;generalize (c.fail s.a).aT=o at *;refine ay (sf:=fL) rfl rfl rfl ?_;simp[-ah,-aa,fL,nA,en,e1,e2,b1,b2,l1,l2,cY,m1,m2,fy,dn,oy,ag,AV.view,AV.ax,AV.ai,aU,bG]
  |some x=>
   obtain⟨r,W⟩:=x;have o8:=o8 r W hT;subst o8;rw[hT]at dn;simp only[Option.isSome_some,nt]at dn;have JY:({ c with V:=W }:CK)=c.aZ W:=rfl;rw[JY]at dn;simp only[show ¬((4:Int)=5) from by decide,show ¬((4:Int)=6) from by decide,if_false];intro af;have vq:(Sm.mk 4 (cv 4 s.nm) (bH 4 s.on) (bJ 4 s.od) ys [] [] s.a z).row=[.int .i64 4,.str [],.str [],.int .i64 0,yv,.U,.U,.int .i64 s.a,.int .i64 z]:=(by simp[Sm.row,Sm.rows,cv,bH,bJ,B0]);show _=some (AV.agg (Sm.mk 4 (cv 4 s.nm) (bH 4 s.on) (bJ 4 s.od) ys [] [] s.a z).row,_);rw[vq];generalize aS s.bd=bv at *;generalize aS s.el=lv at *;generalize (c.aZ W).aT=o at *;refine ay (sf:=fL) rfl rfl rfl ?_;simp[-ah,-aa,fL,nA,en,e1,e2,b1,b2,l1,l2,cY,m1,m2,y1,fy,dn,ag,AV.view,AV.ax,AV.ai,aU,bG]
end K9
namespace K9
open Ax Go bu V7 jG j9
theorem LM(c:CK)(s:Sm)(hf:c.fe=0)(hw:pS c)(dF:c.V.length+Sm.sz s<1000000000)(hk:s.k=5)(h:cI c.sg.bO s.k s.es=true)(y7:∀d:CK,d.H=c.H->d.sg=c.sg->d.fe=0->pS d->d.V.length+Sm.cQ s.bd<1000000000->AJ d s.bd)(S4:∀d:CK,d.H=c.H->d.sg=c.sg->d.fe=0->pS d->d.V.length+Sm.cQ s.el<1000000000->AJ d s.el):qE c s:=by
 unfold qE;have hz:=Sm.jM s;have E4:=E.dD s.es;have nA:=λaf=>k8 af c s (by omega);rw[h]at nA;have en:=λwl af st=>lC wl af st;have oy:=λaf=>eW af c s.a [];have fy:=λaf=>cT af c [];rw[decide_eq_true hf]at fy;have jO:c.aZ c.V=c:=rfl;have cZ:=Sm.az s;rw[hk]at cZ;rw[nk,h];rw[hk]at h ⊢;simp only[if_true];rw[cZ]at nA ⊢;have e1:aD (aI s.es)=true:=aQ;have e2:(aI s.es).view=aI s.es:=aN;have b1:aD (aS s.bd)=true:=bn;have b2:(aS s.bd).view=aS s.bd:=aO;have l1:aD (aS s.el)=true:=bn;have l2:(aS s.el).view=aS s.el:=aO;have cY:=mB c s.es hf (by omega) (λe he=>eP c hf hw e (by have:=E.iA he;omega));have wK:td c.H c.V 5 s.es=kM c.H c.V s.es:=sX (by decide);have JX:kS c.H 5 s.on s.od=some T0:=if_neg (by decide);rw[JX];simp only;rw[wK];cases hv:kM c.H c.V s.es with
 |error a=>
  rw[hv]at cY;simp only at cY ⊢;intro af;refine⟨c.V,Z9,sZ,?_⟩;rw[jO];obtain⟨v,cA,ev⟩:=cY 1;have Ff:=bU cA;have Co:=ck cA;have gr:=λaf=>cT af (c.fail a) [];rw[decide_eq_false fV]at gr;generalize aI s.es=kv at *;generalize aS s.bd=bv at *;generalize aS s.el=lv at *;generalize (c.fail a).aT=o at *;refine ay (sf:=fL) rfl rfl rfl ?_;simp[-ah,-aa,fL,nA,en,e1,e2,b1,b2,l1,l2,ev,cA,gr,ag,AV.view,AV.ax,AV.ai,aU,bG]
 |ok ys=>
  rw[hv]at cY;simp only at cY ⊢;have pT:cI c.sg.bO 5 ys=true:=nZ hv h;obtain⟨fv,⟨z,rfl,o8⟩,dn⟩:=qF 1 c 5 (cv 5 s.nm) (bH 5 s.on) (bJ 5 s.od) ys s.a T0 hw.s pT;simp only[n6]at o8 dn;have mF:(Sm.mk 5 (cv 5 s.nm) (bH 5 s.on) (bJ 5 s.od) ys [] [] s.a 0).row=[.int .i64 5,.str [],.str [],.int .i64 0,aI ys,.U,.U,.int .i64 s.a,.int .i64 0]:=by simp[Sm.row,Sm.rows,cv,bH,bJ]
  rw[mF]at dn;have m1:aD (bD 11 (E.rows ys))=true:=bY;have m2:(bD 11 (E.rows ys)).view=aI ys:=rfl;generalize bD 11 (E.rows ys)=mv at *;have m3:=bU m1;have m4:=ck m1;have y1:aD (aI ys)=true:=aQ;have y2:(aI ys).view=aI ys:=aN;generalize B0:aI ys=yv at *;generalize aI s.es=kv at *;cases hT:j6 c.H c.sg.bz c.V 5 s.nm ys T0 with
  |none=>
   simp only;intro af;refine⟨c.V,Z9,sZ,?_⟩;rw[jO];rw[hT]at dn;simp only[Option.isSome_none,nt]at dn;generalize aS s.bd=bv at *;generalize aS s.el=lv at *;generalize (c.fail s.a).aT=o at *;refine ay (sf:=fL) rfl rfl rfl ?_;simp[-ah,-aa,fL,nA,en,e1,e2,b1,b2,l1,l2,cY,m1,m2,fy,dn,oy,ag,AV.view,AV.ax,AV.ai,aU,bG]
  |some x=>
   obtain⟨r,W⟩:=x;have o8:=o8 r W hT;subst o8;rw[hT]at dn;simp only[Option.isSome_some,nt]at dn;have JY:({ c with V:=W }:CK)=c.aZ W:=rfl;rw[JY]at dn;have hfw:=JH hT;have XT:W=c.V:=by
    rcases hfw with e|⟨e,_⟩;exact e;rcases e with e|e<;>cases e
   have hwW:pS (c.aZ W):=(by rw[XT];exact hw);have NK:=Sm.dD s.bd;have hll:=Sm.dD s.el;have hB:=y7 (c.aZ W) rfl rfl hf hwW (by show W.length+_<_;rw[XT];omega);unfold AJ at hB;have Cq:ki (c.aZ W).H (c.aZ W).sg.bO (c.aZ W).sg.bz (c.aZ W).V s.bd=ki c.H c.sg.bO c.sg.bz W s.bd:=rfl;rw[Cq]at hB;dsimp only;cases hb:ki c.H c.sg.bO c.sg.bz W s.bd with
   |error a=>
    rw[hb]at hB;simp only at hB ⊢;intro af;obtain⟨W',v,v1,ev⟩:=hB 1;have oz:(c.aZ W).aZ W'=c.aZ W':=rfl;rw[oz]at ev;have v3:=bU v1;have v4:=ck v1;have v5:aD v.view=true:=(by rw[jY];exact v1);have eB:=λaf=>xJ af ((c.aZ W').fail a) s.el fV (by omega);refine⟨W',[.int .i64 5,.str [],.str [],.int .i64 0,yv,v.view,.U,.int .i64 s.a,.int .i64 z],⟨_,_,_,_,_,_,_,_,_,rfl,y1,v5,rfl⟩,?_⟩;generalize aS s.bd=bv at *;generalize aS s.el=lv at *;generalize (c.aZ W).aT=o at *;generalize ((c.aZ W').fail a).aT=o2 at *;refine ay (sf:=fL) rfl rfl rfl ?_;simp[-ah,-aa,fL,nA,en,e1,e2,b1,b2,l1,l2,cY,m1,m2,y1,fy,dn,ev,v1,v5,eB,ag,AV.view,AV.ax,AV.ai,aU,bG]
   |ok x=>
    obtain⟨bs,W1⟩:=x;rw[hb]at hB;simp only at hB ⊢;have oz:(c.aZ W).aZ W1=c.aZ W1:=rfl;rw[oz]at hB;have q1:aD (bD 9 (Sm.rows bs))=true:=bY;have q2:(bD 9 (Sm.rows bs)).view=aS bs:=rfl;have q3:=bU q1;have q4:=ck q1;have q5:aD (aS bs)=true:=bn;obtain⟨w1,w2⟩:=Lt (by rw[XT];exact hw.V) hb;have ai9:pS (c.aZ W1):=xI hw w1 (by rw[XT]at w2;omega);have hL:=S4 (c.aZ W1) rfl rfl hf ai9 (by show W1.length+_<_;rw[XT]at w2;omega);unfold AJ at hL;have Cq:ki (c.aZ W1).H (c.aZ W1).sg.bO (c.aZ W1).sg.bz (c.aZ W1).V s.el=ki c.H c.sg.bO c.sg.bz W1 s.el:=rfl;rw[Cq]at hL;generalize bD 9 (Sm.rows bs)=mb at *;cases hc:ki c.H c.sg.bO c.sg.bz W1 s.el with
    |error a=>
     rw[hc]at hL;simp only at hL ⊢;intro af;obtain⟨W',v,v1,ev⟩:=hL 1;have oz:(c.aZ W1).aZ W'=c.aZ W':=rfl;rw[oz]at ev;have v3:=bU v1;have v4:=ck v1;have v5:aD v.view=true:=(by rw[jY];exact v1);refine⟨W',[.int .i64 5,.str [],.str [],.int .i64 0,yv,aS bs,v.view,.int .i64 s.a,.int .i64 z],⟨_,_,_,_,_,_,_,_,_,rfl,y1,q5,v5⟩,?_⟩;generalize aS bs=bsv at *;generalize aS s.bd=bv at *;generalize aS s.el=lv at *;generalize (c.aZ W).aT=o at *;generalize (c.aZ W1).aT=o2 at *;generalize ((c.aZ W').fail a).aT=o3 at *;refine ay (sf:=fL) rfl rfl rfl ?_;simp[-ah,-aa,fL,nA,en,e1,e2,b1,b2,l1,l2,cY,m1,m2,y1,fy,dn,hB,ev,v1,v5,q1,q2,q5,ag,AV.view,AV.ax,AV.ai,aU,bG]
    |ok x=>
     obtain⟨ls,W2⟩:=x;rw[hc]at hL;simp only at hL ⊢;have oz:(c.aZ W1).aZ W2=c.aZ W2:=rfl;rw[oz]at hL;have p1:aD (bD 9 (Sm.rows ls))=true:=bY;have p2:(bD 9 (Sm.rows ls)).view=aS ls:=rfl;have p3:=bU p1;have p4:=ck p1;have p5:aD (aS ls)=true:=bn;intro af;have vq:(Sm.mk 5 (cv 5 s.nm) (bH 5 s.on) (bJ 5 s.od) ys bs ls s.a z).row=[.int .i64 5,.str [],.str [],.int .i64 0,yv,aS bs,aS ls,.int .i64 s.a,.int .i64 z]:=(by simp[Sm.row,cv,bH,bJ,B0,aS]);show _=some (AV.agg (Sm.mk 5 (cv 5 s.nm) (bH 5 s.on) (bJ 5 s.od) ys bs ls s.a z).row,_);rw[vq];generalize bD 9 (Sm.rows ls)=ml at *;generalize aS bs=bsv at *;generalize aS ls=lsv at *;generalize aS s.bd=bv at *;generalize aS s.el=lv at *;generalize (c.aZ W).aT=o at *;generalize (c.aZ W1).aT=o2 at *;generalize (c.aZ W2).aT=o3 at *;refine ay (sf:=fL) rfl rfl rfl ?_;simp[-ah,-aa,fL,nA,en,e1,e2,b1,b2,l1,l2,cY,m1,m2,y1,fy,dn,hB,hL,q1,q2,q5,p1,p2,p5,ag,AV.view,AV.ax,AV.ai,aU,bG]
theorem LN(c:CK)(s:Sm)(hf:c.fe=0)(hw:pS c)(dF:c.V.length+Sm.sz s<1000000000)(hk:s.k=6)(h:cI c.sg.bO s.k s.es=true)(y7:∀d:CK,d.H=c.H->d.sg=c.sg->d.fe=0->pS d->d.V.length+Sm.cQ s.bd<1000000000->AJ d s.bd):qE c s:=by
 unfold qE;have hz:=Sm.jM s;have E4:=E.dD s.es;have nA:=λaf=>k8 af c s (by omega);rw[h]at nA;have en:=λwl af st=>lC wl af st;have oy:=λaf=>eW af c s.a [];have fy:=λaf=>cT af c [];rw[decide_eq_true hf]at fy;have jO:c.aZ c.V=c:=rfl;have cZ:=Sm.az s;rw[hk]at cZ;rw[nk,h];rw[hk]at h ⊢;simp only[if_true];rw[cZ]at nA ⊢;have e1:aD (aI s.es)=true:=aQ;have e2:(aI s.es).view=aI s.es:=aN;have b1:aD (aS s.bd)=true:=bn;have b2:(aS s.bd).view=aS s.bd:=aO;have l1:aD (aS s.el)=true:=bn;have l2:(aS s.el).view=aS s.el:=aO;have cY:=mB c s.es hf (by omega) (λe he=>eP c hf hw e (by have:=E.iA he;omega));have wK:td c.H c.V 6 s.es=kM c.H c.V s.es:=sX (by decide);have JX:kS c.H 6 s.on s.od=some T0:=if_neg (by decide);rw[JX];simp only;rw[wK];cases hv:kM c.H c.V s.es with
 |error a=>
  rw[hv]at cY;simp only at cY ⊢;intro af;refine⟨c.V,Z9,sZ,?_⟩;rw[jO];obtain⟨v,cA,ev⟩:=cY 1;have Ff:=bU cA;have Co:=ck cA;have gr:=λaf=>cT af (c.fail a) [];rw[decide_eq_false fV]at gr;generalize aI s.es=kv at *;generalize aS s.bd=bv at *;generalize aS s.el=lv at *;generalize (c.fail a).aT=o at *;refine ay (sf:=fL) rfl rfl rfl ?_;simp[-ah,-aa,fL,nA,en,e1,e2,b1,b2,l1,l2,ev,cA,gr,ag,AV.view,AV.ax,AV.ai,aU,bG]
 |ok ys=>
  rw[hv]at cY;simp only at cY ⊢;have pT:cI c.sg.bO 6 ys=true:=nZ hv h;obtain⟨fv,⟨z,rfl,o8⟩,dn⟩:=qF 1 c 6 (cv 6 s.nm) (bH 6 s.on) (bJ 6 s.od) ys s.a T0 hw.s pT;simp only[n6]at o8 dn;have mF:(Sm.mk 6 (cv 6 s.nm) (bH 6 s.on) (bJ 6 s.od) ys [] [] s.a 0).row=[.int .i64 6,.str [],.str [],.int .i64 0,aI ys,.U,.U,.int .i64 s.a,.int .i64 0]:=by simp[Sm.row,Sm.rows,cv,bH,bJ]
  rw[mF]at dn;have m1:aD (bD 11 (E.rows ys))=true:=bY;have m2:(bD 11 (E.rows ys)).view=aI ys:=rfl;generalize bD 11 (E.rows ys)=mv at *;have m3:=bU m1;have m4:=ck m1;have y1:aD (aI ys)=true:=aQ;have y2:(aI ys).view=aI ys:=aN;generalize B0:aI ys=yv at *;generalize aI s.es=kv at *;cases hT:j6 c.H c.sg.bz c.V 6 s.nm ys T0 with
  |none=>
   simp only;intro af;refine⟨c.V,Z9,sZ,?_⟩;rw[jO];rw[hT]at dn;simp only[Option.isSome_none,nt]at dn;generalize aS s.bd=bv at *;generalize aS s.el=lv at *;generalize (c.fail s.a).aT=o at *;refine ay (sf:=fL) rfl rfl rfl ?_;simp[-ah,-aa,fL,nA,en,e1,e2,b1,b2,l1,l2,cY,m1,m2,fy,dn,oy,ag,AV.view,AV.ax,AV.ai,aU,bG]
  |some x=>
   obtain⟨r,W⟩:=x;have o8:=o8 r W hT;subst o8;rw[hT]at dn;simp only[Option.isSome_some,nt]at dn;have JY:({ c with V:=W }:CK)=c.aZ W:=rfl;rw[JY]at dn;have hfw:=JH hT;have XT:W=c.V:=by
    rcases hfw with e|⟨e,_⟩;exact e;rcases e with e|e<;>cases e
   have hwW:pS (c.aZ W):=(by rw[XT];exact hw);have NK:=Sm.dD s.bd;have hll:=Sm.dD s.el;have hB:=y7 (c.aZ W) rfl rfl hf hwW (by show W.length+_<_;rw[XT];omega);unfold AJ at hB;have Cq:ki (c.aZ W).H (c.aZ W).sg.bO (c.aZ W).sg.bz (c.aZ W).V s.bd=ki c.H c.sg.bO c.sg.bz W s.bd:=rfl;rw[Cq]at hB;simp only[show ¬((6:Int)=5) from by decide,if_false];cases hb:ki c.H c.sg.bO c.sg.bz W s.bd with
   |error a=>
    rw[hb]at hB;simp only at hB ⊢;intro af;obtain⟨W',v,v1,ev⟩:=hB 1;have oz:(c.aZ W).aZ W'=c.aZ W':=rfl;rw[oz]at ev;have v3:=bU v1;have v4:=ck v1;have v5:aD v.view=true:=(by rw[jY];exact v1);have eB:=λaf=>xJ af ((c.aZ W').fail a) s.el fV (by omega);refine⟨W',[.int .i64 6,.str [],.str [],.int .i64 0,yv,v.view,.U,.int .i64 s.a,.int .i64 z],⟨_,_,_,_,_,_,_,_,_,rfl,y1,v5,rfl⟩,?_⟩;generalize aS s.bd=bv at *;generalize aS s.el=lv at *;generalize (c.aZ W).aT=o at *;generalize ((c.aZ W').fail a).aT=o2 at *;refine ay (sf:=fL) rfl rfl rfl ?_;simp[-ah,-aa,fL,nA,en,e1,e2,b1,b2,l1,l2,cY,m1,m2,y1,fy,dn,ev,v1,v5,ag,AV.view,AV.ax,AV.ai,aU,bG]
   |ok x=>
    obtain⟨bs,W1⟩:=x;rw[hb]at hB;simp only at hB ⊢;have oz:(c.aZ W).aZ W1=c.aZ W1:=rfl;rw[oz]at hB;have q1:aD (bD 9 (Sm.rows bs))=true:=bY;have q2:(bD 9 (Sm.rows bs)).view=aS bs:=rfl;have q3:=bU q1;have q4:=ck q1;have q5:aD (aS bs)=true:=bn;intro af;have vq:(Sm.mk 6 (cv 6 s.nm) (bH 6 s.on) (bJ 6 s.od) ys bs [] s.a z).row=[.int .i64 6,.str [],.str [],.int .i64 0,yv,aS bs,.U,.int .i64 s.a,.int .i64 z]:=(by simp[Sm.row,Sm.rows,cv,bH,bJ,B0,aS]);show _=some (AV.agg (Sm.mk 6 (cv 6 s.nm) (bH 6 s.on) (bJ 6 s.od) ys bs [] s.a z).row,_);rw[vq];generalize bD 9 (Sm.rows bs)=mb at *;generalize aS bs=bsv at *;generalize aS s.bd=bv at *;generalize aS s.el=lv at *;generalize (c.aZ W).aT=o at *;generalize (c.aZ W1).aT=o2 at *;refine ay (sf:=fL) rfl rfl rfl ?_;simp[-ah,-aa,fL,nA,en,e1,e2,b1,b2,l1,l2,cY,m1,m2,y1,fy,dn,hB,q1,q2,q5,ag,AV.view,AV.ax,AV.ai,aU,bG]
theorem LO(c:CK)(s:Sm)(hf:c.fe=0)(hw:pS c)(dF:c.V.length+Sm.sz s<1000000000)(hk:s.k=7)(h:cI c.sg.bO s.k s.es=true):qE c s:=by
 unfold qE;have hz:=Sm.jM s;have E4:=E.dD s.es;have nA:=λaf=>k8 af c s (by omega);rw[h]at nA;have en:=λwl af st=>lC wl af st;have oy:=λaf=>eW af c s.a [];have fy:=λaf=>cT af c [];rw[decide_eq_true hf]at fy;have jO:c.aZ c.V=c:=rfl;have cZ:=Sm.az s;rw[hk]at cZ;rw[nk,h];rw[hk]at h ⊢;simp only[if_true];rw[cZ]at nA ⊢;have e1:aD (aI s.es)=true:=aQ;have e2:(aI s.es).view=aI s.es:=aN;have b1:aD (aS s.bd)=true:=bn;have b2:(aS s.bd).view=aS s.bd:=aO;have l1:aD (aS s.el)=true:=bn;have l2:(aS s.el).view=aS s.el:=aO;have cY:=mB c s.es hf (by omega) (λe he=>eP c hf hw e (by have:=E.iA he;omega));have wK:td c.H c.V 7 s.es=kM c.H c.V s.es:=sX (by decide);have JX:kS c.H 7 s.on s.od=some T0:=if_neg (by decide);rw[JX];simp only;rw[wK];cases hv:kM c.H c.V s.es with
 |error a=>
  rw[hv]at cY;simp only at cY ⊢;intro af;refine⟨c.V,Z9,sZ,?_⟩;rw[jO];obtain⟨v,cA,ev⟩:=cY 1;have Ff:=bU cA;have Co:=ck cA;have gr:=λaf=>cT af (c.fail a) [];rw[decide_eq_false fV]at gr;generalize aI s.es=kv at *;generalize aS s.bd=bv at *;generalize aS s.el=lv at *;generalize (c.fail a).aT=o at *;refine ay (sf:=fL) rfl rfl rfl ?_;simp[-ah,-aa,fL,nA,en,e1,e2,b1,b2,l1,l2,ev,cA,gr,ag,AV.view,AV.ax,AV.ai,aU,bG]
 |ok ys=>
  rw[hv]at cY;simp only at cY ⊢;have pT:cI c.sg.bO 7 ys=true:=nZ hv h;obtain⟨fv,⟨z,rfl,o8⟩,dn⟩:=qF 1 c 7 (cv 7 s.nm) (bH 7 s.on) (bJ 7 s.od) ys s.a T0 hw.s pT;simp only[n6]at o8 dn;have mF:(Sm.mk 7 (cv 7 s.nm) (bH 7 s.on) (bJ 7 s.od) ys [] [] s.a 0).row=[.int .i64 7,.str [],.str [],.int .i64 0,aI ys,.U,.U,.int .i64 s.a,.int .i64 0]:=by simp[Sm.row,Sm.rows,cv,bH,bJ]
  rw[mF]at dn;have m1:aD (bD 11 (E.rows ys))=true:=bY;have m2:(bD 11 (E.rows ys)).view=aI ys:=rfl;generalize bD 11 (E.rows ys)=mv at *;have m3:=bU m1;have m4:=ck m1;have y1:aD (aI ys)=true:=aQ;have y2:(aI ys).view=aI ys:=aN;generalize B0:aI ys=yv at *;generalize aI s.es=kv at *;cases hT:j6 c.H c.sg.bz c.V 7 s.nm ys T0 with
  |none=>
   simp only;intro af;refine⟨c.V,Z9,sZ,?_⟩;rw[jO];rw[hT]at dn;simp only[Option.isSome_none,nt]at dn;generalize aS s.bd=bv at *;generalize aS s.el=lv at *;generalize (c.fail s.a).aT=o at *;refine ay (sf:=fL) rfl rfl rfl ?_;simp[-ah,-aa,fL,nA,en,e1,e2,b1,b2,l1,l2,cY,m1,m2,fy,dn,oy,ag,AV.view,AV.ax,AV.ai,aU,bG]
  |some x=>
   obtain⟨r,W⟩:=x;have o8:=o8 r W hT;subst o8;rw[hT]at dn;simp only[Option.isSome_some,nt]at dn;have JY:({ c with V:=W }:CK)=c.aZ W:=rfl;rw[JY]at dn;simp only[show ¬((7:Int)=5) from by decide,show ¬((7:Int)=6) from by decide,if_false];intro af;have vq:(Sm.mk 7 (cv 7 s.nm) (bH 7 s.on) (bJ 7 s.od) ys [] [] s.a z).row=[.int .i64 7,.str [],.str [],.int .i64 0,yv,.U,.U,.int .i64 s.a,.int .i64 z]:=(by simp[Sm.row,Sm.rows,cv,bH,bJ,B0]);show _=some (AV.agg (Sm.mk 7 (cv 7 s.nm) (bH 7 s.on) (bJ 7 s.od) ys [] [] s.a z).row,_);rw[vq];generalize aS s.bd=bv at *;generalize aS s.el=lv at *;generalize (c.aZ W).aT=o at *;refine ay (sf:=fL) rfl rfl rfl ?_;simp[-ah,-aa,fL,nA,en,e1,e2,b1,b2,l1,l2,cY,m1,m2,y1,fy,dn,ag,AV.view,AV.ax,AV.ai,aU,bG]
theorem LP(c:CK)(s:Sm)(hf:c.fe=0)(hw:pS c)(dF:c.V.length+Sm.sz s<1000000000)(hk:s.k=8)(h:cI c.sg.bO s.k s.es=true):qE c s:=by
 unfold qE;have hz:=Sm.jM s;have E4:=E.dD s.es;have nA:=λaf=>k8 af c s (by omega);rw[h]at nA;have en:=λwl af st=>lC wl af st;have oy:=λaf=>eW af c s.a [];have fy:=λaf=>cT af c [];rw[decide_eq_true hf]at fy;have jO:c.aZ c.V=c:=rfl;have cZ:=Sm.az s;rw[hk]at cZ;rw[nk,h];rw[hk]at h ⊢;simp only[if_true];rw[cZ]at nA ⊢;have e1:aD (aI s.es)=true:=aQ;have e2:(aI s.es).view=aI s.es:=aN;have b1:aD (aS s.bd)=true:=bn;have b2:(aS s.bd).view=aS s.bd:=aO;have l1:aD (aS s.el)=true:=bn;have l2:(aS s.el).view=aS s.el:=aO;have cY:=mB c s.es hf (by omega) (λe he=>eP c hf hw e (by have:=E.iA he;omega));have wK:td c.H c.V 8 s.es=kM c.H c.V s.es:=sX (by decide);have JX:kS c.H 8 s.on s.od=some T0:=if_neg (by decide);rw[JX];simp only;rw[wK];cases hv:kM c.H c.V s.es with
 |error a=>
  rw[hv]at cY;simp only at cY ⊢;intro af;refine⟨c.V,Z9,sZ,?_⟩;rw[jO];obtain⟨v,cA,ev⟩:=cY 1;have Ff:=bU cA;have Co:=ck cA;have gr:=λaf=>cT af (c.fail a) [];rw[decide_eq_false fV]at gr;generalize aI s.es=kv at *;generalize aS s.bd=bv at *;generalize aS s.el=lv at *;generalize (c.fail a).aT=o at *;refine ay (sf:=fL) rfl rfl rfl ?_;simp[-ah,-aa,fL,nA,en,e1,e2,b1,b2,l1,l2,ev,cA,gr,ag,AV.view,AV.ax,AV.ai,aU,bG]
 |ok ys=>
  rw[hv]at cY;simp only at cY ⊢;have pT:cI c.sg.bO 8 ys=true:=nZ hv h;obtain⟨fv,⟨z,rfl,o8⟩,dn⟩:=qF 1 c 8 (cv 8 s.nm) (bH 8 s.on) (bJ 8 s.od) ys s.a T0 hw.s pT;simp only[n6]at o8 dn;have mF:(Sm.mk 8 (cv 8 s.nm) (bH 8 s.on) (bJ 8 s.od) ys [] [] s.a 0).row=[.int .i64 8,.str [],.str [],.int .i64 0,aI ys,.U,.U,.int .i64 s.a,.int .i64 0]:=by simp[Sm.row,Sm.rows,cv,bH,bJ]
  rw[mF]at dn;have m1:aD (bD 11 (E.rows ys))=true:=bY;have m2:(bD 11 (E.rows ys)).view=aI ys:=rfl;generalize bD 11 (E.rows ys)=mv at *;have m3:=bU m1;have m4:=ck m1;have y1:aD (aI ys)=true:=aQ;have y2:(aI ys).view=aI ys:=aN;generalize B0:aI ys=yv at *;generalize aI s.es=kv at *;cases hT:j6 c.H c.sg.bz c.V 8 s.nm ys T0 with
  |none=>
   simp only;intro af;refine⟨c.V,Z9,sZ,?_⟩;rw[jO];rw[hT]at dn;simp only[Option.isSome_none,nt]at dn;generalize aS s.bd=bv at *;generalize aS s.el=lv at *;generalize (c.fail s.a).aT=o at *;refine ay (sf:=fL) rfl rfl rfl ?_;simp[-ah,-aa,fL,nA,en,e1,e2,b1,b2,l1,l2,cY,m1,m2,fy,dn,oy,ag,AV.view,AV.ax,AV.ai,aU,bG]
  |some x=>
   obtain⟨r,W⟩:=x;have o8:=o8 r W hT;subst o8;rw[hT]at dn;simp only[Option.isSome_some,nt]at dn;have JY:({ c with V:=W }:CK)=c.aZ W:=rfl;rw[JY]at dn;simp only[show ¬((8:Int)=5) from by decide,show ¬((8:Int)=6) from by decide,if_false];intro af;have vq:(Sm.mk 8 (cv 8 s.nm) (bH 8 s.on) (bJ 8 s.od) ys [] [] s.a z).row=[.int .i64 8,.str [],.str [],.int .i64 0,yv,.U,.U,.int .i64 s.a,.int .i64 z]:=(by simp[Sm.row,Sm.rows,cv,bH,bJ,B0]);show _=some (AV.agg (Sm.mk 8 (cv 8 s.nm) (bH 8 s.on) (bJ 8 s.od) ys [] [] s.a z).row,_);rw[vq];generalize aS s.bd=bv at *;generalize aS s.el=lv at *;generalize (c.aZ W).aT=o at *;refine ay (sf:=fL) rfl rfl rfl ?_;simp[-ah,-aa,fL,nA,en,e1,e2,b1,b2,l1,l2,cY,m1,m2,y1,fy,dn,ag,AV.view,AV.ax,AV.ai,aU,bG]
theorem LQ(c:CK)(s:Sm)(hf:c.fe=0)(hw:pS c)(dF:c.V.length+Sm.sz s<1000000000)(hk:s.k=9)(h:cI c.sg.bO s.k s.es=true):qE c s:=by
 unfold qE;have hz:=Sm.jM s;have E4:=E.dD s.es;have nA:=λaf=>k8 af c s (by omega);rw[h]at nA;have en:=λwl af st=>lC wl af st;have oy:=λaf=>eW af c s.a [];have fy:=λaf=>cT af c [];rw[decide_eq_true hf]at fy;have jO:c.aZ c.V=c:=rfl;have cZ:=Sm.az s;rw[hk]at cZ;rw[nk,h];rw[hk]at h ⊢;simp only[if_true];rw[cZ]at nA ⊢;have e1:aD (aI s.es)=true:=aQ;have e2:(aI s.es).view=aI s.es:=aN;have b1:aD (aS s.bd)=true:=bn;have b2:(aS s.bd).view=aS s.bd:=aO;have l1:aD (aS s.el)=true:=bn;have l2:(aS s.el).view=aS s.el:=aO;obtain⟨e,jR,hek⟩:=Lu h;have hze:bX 11 (aI s.es)=true:=iM;have cN:aM (aI s.es)=E.rows s.es:=aE;have hX:=eP c hf hw e (by have:E.sz e<=E.cQ s.es:=E.iA (by rw[jR];exact List.mem_cons_self);omega);unfold JW at hX;have wK:td c.H c.V 9 s.es=match xC c.H c.V e with|.error x=>.error x|.ok y=>.ok [y]:=by rw[jR];exact Sz
 rw[show E.rows s.es=E.rows [e] from by rw[jR]]at cN;simp only[E.rows,E.az]at cN;have JX:kS c.H 9 s.on s.od=some T0:=if_neg (by decide);rw[JX];simp only;rw[wK];cases hv:xC c.H c.V e with
 |error a=>
  rw[hv]at hX;simp only at hX ⊢;intro af;refine⟨c.V,Z9,sZ,?_⟩;rw[jO];obtain⟨y,ev⟩:=hX 1;have gr:=λaf=>cT af (c.fail a) [];rw[decide_eq_false fV]at gr;rw[E.az e,E.az y]at ev;generalize aI s.es=kv at *;generalize aS s.bd=bv at *;generalize aS s.el=lv at *;generalize (c.fail a).aT=o at *;refine ay (sf:=fL) rfl rfl rfl ?_;simp[-ah,-aa,fL,nA,en,e1,e2,b1,b2,l1,l2,hze,cN,aX,ev,gr,ag,AV.view,AV.ax,AV.ai,aU,bG]
 |ok y=>
  rw[hv]at hX;simp only at hX ⊢;have pT:cI c.sg.bO 9 [y]=true:=by simp[cI,Nd hv,hek]
  obtain⟨fv,⟨z,rfl,o8⟩,dn⟩:=qF 1 c 9 (cv 9 s.nm) (bH 9 s.on) (bJ 9 s.od) [y] s.a T0 hw.s pT;simp only[n6]at o8 dn;have mF:(Sm.mk 9 (cv 9 s.nm) (bH 9 s.on) (bJ 9 s.od) [y] [] [] s.a 0).row=[.int .i64 9,.str [],.str [],.int .i64 0,aI [y],.U,.U,.int .i64 s.a,.int .i64 0]:=by simp[Sm.row,Sm.rows,cv,bH,bJ]
  rw[mF]at dn;have B0:aI [y]=.dL 11 [y.row]:=by simp[aI,E.rows]
  rw[B0]at dn;rw[E.az y]at dn hX B0;rw[E.az e]at hX;generalize aI s.es=kv at *;cases hT:j6 c.H c.sg.bz c.V 9 s.nm [y] T0 with
  |none=>
   simp only;intro af;refine⟨c.V,Z9,sZ,?_⟩;rw[jO];rw[hT]at dn;simp only[Option.isSome_none,nt]at dn;generalize aS s.bd=bv at *;generalize aS s.el=lv at *;generalize (c.fail s.a).aT=o at *;refine ay (sf:=fL) rfl rfl rfl ?_;simp[-ah,-aa,fL,nA,en,e1,e2,b1,b2,l1,l2,hze,cN,aX,hX,fy,dn,oy,ag,AV.view,AV.ax,AV.ai,aU,bG]
  |some x=>
   obtain⟨r,W⟩:=x;have o8:=o8 r W hT;subst o8;rw[hT]at dn;simp only[Option.isSome_some,nt]at dn;have JY:({ c with V:=W }:CK)=c.aZ W:=rfl;rw[JY]at dn;simp only[show ¬((9:Int)=5) from by decide,show ¬((9:Int)=6) from by decide,if_false];intro af;have vq:(Sm.mk 9 (cv 9 s.nm) (bH 9 s.on) (bJ 9 s.od) [y] [] [] s.a z).row=[.int .i64 9,.str [],.str [],.int .i64 0,aI [y],.U,.U,.int .i64 s.a,.int .i64 z]:=(by simp[Sm.row,Sm.rows,cv,bH,bJ]);show _=some (AV.agg (Sm.mk 9 (cv 9 s.nm) (bH 9 s.on) (bJ 9 s.od) [y] [] [] s.a z).row,_);rw[vq];generalize aS s.bd=bv at *;generalize aS s.el=lv at *;generalize (c.aZ W).aT=o at *;refine ay (sf:=fL) rfl rfl rfl ?_;simp[-ah,-aa,fL,nA,en,e1,e2,b1,b2,l1,l2,hze,cN,aX,hX,B0,fy,dn,ag,AV.view,AV.ax,AV.ai,aU,bG]
end K9
namespace K9
open Ax Go bu V7 jG j9
theorem Np{bO:Bool}{k:Int}{es:List E}(h:cI bO k es=true):k=1\/k=2\/k=3\/k=4\/k=5\/k=6\/k=7\/k=8\/k=9:=by
 by_cases h1:k=1;exact .inl h1;by_cases h4:k=4;omega;by_cases h7:k=7;omega;by_cases h9:k=9;omega;unfold cI at h;rw[if_neg h1,if_neg h4,if_neg h7,if_neg h9]at h;split at h;omega;cases h
theorem Ew{H:Hd}{bO:Bool}{bz:T3}{V:List Vd}{l:List Sm}{k:Nat}(h:k<l.length):ki H bO bz V (l.drop k)=match xU H bO bz V l[k] with
  |.error x=>.error x|.ok (y,W)=>match ki H bO bz W (l.drop (k+1)) with
   |.error x=>.error x|.ok (ys,X)=>.ok (y::ys,X):=by
 rw[List.drop_eq_getElem_cons h];conv=>lhs;unfold ki
 rfl
def H6(ys:List Sm)(r:Except Int (List Sm×List Vd)):Except Int (List Sm×List Vd):=match r with
 |.error x=>.error x|.ok (zs,X)=>.ok (ys++zs,X)
theorem Gw{H:Hd}{bO:Bool}{bz:T3}{V:List Vd}{l:List Sm}{ys:List Sm}{k:Nat}(h:k<l.length):H6 ys (ki H bO bz V (l.drop k))=match xU H bO bz V l[k] with
  |.error x=>.error x|.ok (y,W)=>H6 (ys++[y]) (ki H bO bz W (l.drop (k+1))):=by
 rw[Ew h];split
 rfl
 split;rename_i h1;rw[h1];rfl;rename_i h1;rw[h1];simp[H6]
theorem wL{l:List Sm}{k:Nat}(h:k<l.length):(Sm.rows l)[k]?=some l[k].row:=by simp[fY,h]
theorem qG{l:List Sm}{k:Nat}(h:k<l.length)(h2:k<(Sm.rows l).length):(Sm.rows l)[k]=l[k].row:=by simp[fY]
theorem Ao:∀(l:List Sm)(k:Nat)(h:k<l.length),Sm.cQ (l.drop k)=Sm.sz l[k]+Sm.cQ (l.drop (k+1)):=by
 intro l k h;rw[List.drop_eq_getElem_cons h];rfl
theorem fh(c:CK)(l:List Sm)(hf:c.fe=0)(hw:pS c)(dF:c.V.length+Sm.cQ l<1000000000)
  (hl:∀s∈l,∀d:CK,d.H=c.H->d.sg=c.sg->d.fe=0->pS d->d.V.length+Sm.sz s<1000000000->qE d s):AJ c l:=by
 unfold AJ;have hz:bX 9 (aS l)=true:=Aj;have cA:aD (aS l)=true:=bn;have dW:(aS l).view=aS l:=aO;have cN:aM (aS l)=Sm.rows l:=aE;have hlen:=Sm.dD l;have lJ:∀(ys:List Sm) (y:Sm),ys.length<1000000000->nH 9 136 (bD 9 (Sm.rows ys)) [y.row]=some (bD 9 (Sm.rows (ys++[y]))):=λys y h=>by
  rw[dV (by simp[bN,Sm.az]) (by simp[cR];omega)];simp[fY]
 have Bc:∀(ys:List (List AV)) (y:List AV),y.length=9->ys.length<1000000000->nH 9 136 (bD 9 ys) [y]=some (bD 9 (ys++[y])):=λys y h1 h=>by
  rw[dV (by simp[bN,h1]) (by simp[cR];omega)]
 cases hR:ki c.H c.sg.bO c.sg.bz c.V l with
 |ok x=>
  obtain⟨zs,X⟩:=x;intro af;refine ay (sf:=XG) rfl rfl rfl ?_;generalize aS l=lv at *;simp[-ah,-aa,XG,cA,dW,cN];refine bf DT.eq_1 (λx:Nat×List Sm×List Vd×List AV=>⟨[(0,.val (.ptr 0 0 0 0)),(5,.val (bD 9 (Sm.rows x.2.1))),(8,.val lv),(9,.val (.int .i64 l.length)),(10,.val (.int .i64 x.1))],[x.2.2.2],[(c.aZ x.2.2.1).aT]⟩)
   (λx=>x.1<=l.length/\x.2.1.length=x.1/\H6 x.2.1 (ki c.H c.sg.bO c.sg.bz x.2.2.1 (l.drop x.1))=.ok (zs,X)/\pS (c.aZ x.2.2.1)/\x.2.2.1.length+Sm.cQ (l.drop x.1)<1000000000) (λx=>l.length-x.1) (0,[],c.V,[]) rfl ⟨by simp,rfl,by simp[H6,hR],hw,by simpa using dF⟩ ?_
  rintro⟨k,ys,V,b⟩ ⟨hk,hy,hp,hW,Wa⟩ ih;simp only at hk hy hp hW Wa ih;by_cases aW:k<l.length;have nK:=wk k (by omega);rw[Ao l k aW]at Wa;have hv:=hl l[k] (List.getElem_mem aW) (c.aZ V) rfl rfl hf hW (by show V.length+_<_;omega);unfold qE at hv;have Cq:xU (c.aZ V).H (c.aZ V).sg.bO (c.aZ V).sg.bz (c.aZ V).V l[k]=xU c.H c.sg.bO c.sg.bz V l[k]:=rfl;rw[Cq]at hv;rw[Gw aW]at hp;have gE:=wL aW;have mZ:=λh2=>qG aW h2;have fy:=λaf=>cT af (c.aZ V) [];rw[decide_eq_true (show (c.aZ V).fe=0 from hf)]at fy;cases hx:xU c.H c.sg.bO c.sg.bz V l[k] with
  |error a=>rw[hx]at hp;cases hp|ok x=>
   obtain⟨y,W⟩:=x;rw[hx]at hp hv;simp only at hp hv;obtain⟨w1,w2⟩:=Ed l[k] V y W hW.V hx;have ap:=lJ ys y (by omega);have dx:=λb=>ih (k+1,ys++[y],W,b) ⟨by simp only;omega,by simp[hy],hp,xI (W:=W) hw w1 (by omega),by show W.length+Sm.cQ (l.drop (k+1))<1000000000;omega⟩ (by simp only;omega);simp only at dx;have oz:(c.aZ V).aZ W=c.aZ W:=rfl;rw[oz]at hv;generalize (c.aZ V).aT=o1 at *;generalize (c.aZ W).aT=o2 at *;generalize bD 9 (Sm.rows (ys++[y]))=R at *;rw[Sm.az l[k]]at hv gE;simp only[Sm.az l[k]]at mZ;rw[Sm.az y]at hv ap;generalize l[k]=x at *;simp[-ah,-aa,aX,aW,nK,hz,cN,mZ,fy,hv,ap,ag,AV.view];exact dx _
  have eK:k=l.length:=by omega
  have hh:ys=zs/\V=X:=by
   rw[eK,List.drop_length]at hp;simpa [ki,H6] using hp
  obtain⟨h1,h2⟩:=hh;subst h1 h2;simp[-ah,-aa,aW]
 |error a=>
  intro af;obtain⟨v,bV,h1,W,h2,h3⟩:∃v bV,(bh S).call 0 af 83 [.ptr 0 0 0 0,aS l] [c.aT]=some (v,bV)/\∃W,aD v=true/\bV=[((c.aZ W).fail a).aT]:=by
   refine iT (sf:=XG) rfl rfl rfl ?_;generalize aS l=lv at *;simp[-ah,-aa,XG,cA,dW,cN];refine bf DT.eq_1 (λx:Nat×List (List AV)×List Vd×CK×List AV=>⟨[(0,.val (.ptr 0 0 0 0)),(5,.val (bD 9 x.2.1)),(8,.val lv),(9,.val (.int .i64 l.length)),(10,.val (.int .i64 x.1))],[x.2.2.2.2],[x.2.2.2.1.aT]⟩)
    (λx=>x.1<=l.length/\x.2.1.length=x.1/\(x.2.2.2.1=c.aZ x.2.2.1/\ki c.H c.sg.bO c.sg.bz x.2.2.1 (l.drop x.1)=.error a/\pS (c.aZ x.2.2.1)/\x.2.2.1.length+Sm.cQ (l.drop x.1)<1000000000\/x.2.2.2.1=(c.aZ x.2.2.1).fail a))
    (λx=>l.length-x.1) (0,[],c.V,c,[]) rfl ⟨by simp,rfl,.inl ⟨rfl,by simpa using hR,hw,by simpa using dF⟩⟩ ?_
   rintro⟨k,ys,V,d,b⟩ ⟨hk,hy,hp⟩ ih;simp only at hk hy hp ih;by_cases aW:k<l.length;have nK:=wk k (by omega);have gE:=wL aW;have mZ:=λh2=>qG aW h2;rcases hp with⟨hd,hp,hW,Wa⟩|hd;subst hd;rw[Ao l k aW]at Wa;have hv:=hl l[k] (List.getElem_mem aW) (c.aZ V) rfl rfl hf hW (by show V.length+_<_;omega);unfold qE at hv;have Cq:xU (c.aZ V).H (c.aZ V).sg.bO (c.aZ V).sg.bz (c.aZ V).V l[k]=xU c.H c.sg.bO c.sg.bz V l[k]:=rfl;rw[Cq]at hv;rw[Ew aW]at hp;have fy:=λaf=>cT af (c.aZ V) [];rw[decide_eq_true (show (c.aZ V).fe=0 from hf)]at fy;cases hx:xU c.H c.sg.bO c.sg.bz V l[k] with
   |error a'=>
    rw[hx]at hp hv;simp only at hp hv;cases hp;obtain⟨W,row,⟨rk,rnm,ron,rod,bz,rbd,rel,ra,LR,rfl,q1,q2,q3⟩,hv⟩:=hv 1;have oz:(c.aZ V).aZ W=c.aZ W:=rfl;rw[oz]at hv;have ap:=Bc ys [.int .i64 rk,.str rnm,.str ron,.int .i64 rod,bz.view,rbd.view,rel.view,.int .i64 ra,.int .i64 LR] rfl (by omega);have dx:=λb=>ih (k+1,ys++[[.int .i64 rk,.str rnm,.str ron,.int .i64 rod,bz.view,rbd.view,rel.view,.int .i64 ra,.int .i64 LR]],W,(c.aZ W).fail a,b) ⟨by simp only;omega,by simp[hy],.inr rfl⟩ (by simp only;omega);simp only at dx;generalize (c.aZ V).aT=o1 at *;generalize ((c.aZ W).fail a).aT=o2 at *;generalize bD 9 (ys++[[.int .i64 rk,.str rnm,.str ron,.int .i64 rod,bz.view,rbd.view,rel.view,.int .i64 ra,.int .i64 LR]])=R at *;rw[Sm.az l[k]]at hv gE;simp only[Sm.az l[k]]at mZ;generalize l[k]=x at *;simp[-ah,-aa,aX,aW,nK,hz,cN,mZ,fy,hv,ap,q1,q2,q3,ag,AV.view];exact dx _
   |ok x=>
    obtain⟨y,W⟩:=x;rw[hx]at hp hv;simp only at hp hv;obtain⟨w1,w2⟩:=Ed l[k] V y W hW.V hx;have YB:ki c.H c.sg.bO c.sg.bz W (l.drop (k+1))=.error a:=by
     split at hp;rename_i h;cases hp;exact h;cases hp
    have ap:=Bc ys y.row (by rw[Sm.az];rfl) (by omega);have dx:=λb=>ih (k+1,ys++[y.row],W,c.aZ W,b) ⟨by simp only;omega,by simp[hy],.inl ⟨rfl,YB,xI (W:=W) hw w1 (by omega),by show W.length+Sm.cQ (l.drop (k+1))<1000000000;omega⟩⟩ (by simp only;omega);simp only at dx;have oz:(c.aZ V).aZ W=c.aZ W:=rfl;rw[oz]at hv;generalize (c.aZ V).aT=o1 at *;generalize (c.aZ W).aT=o2 at *;generalize bD 9 (ys++[y.row])=R at *;rw[Sm.az l[k]]at hv gE;simp only[Sm.az l[k]]at mZ;rw[Sm.az y]at hv ap;generalize l[k]=x at *;simp[-ah,-aa,aX,aW,nK,hz,cN,mZ,fy,hv,ap,ag,AV.view];exact dx _
   subst hd;have gr:=λaf=>cT af ((c.aZ V).fail a) [];rw[decide_eq_false fV]at gr;simp only[Sm.az l[k]]at mZ;rw[Sm.az l[k]]at gE;have hex:∃W,((c.aZ V).fail a).aT=((c.aZ W).fail a).aT:=⟨V,rfl⟩;generalize ((c.aZ V).fail a).aT=o2 at *;generalize l[k]=x at *;simp[-ah,-aa,aX,aW,hz,cN,mZ,gr,hex,ag,AV.view];have eK:k=l.length:=(by omega);rcases hp with⟨hd,hp,_⟩|hd;rw[eK,List.drop_length]at hp;simp[ki]at hp;subst hd;have hex:∃W,((c.aZ V).fail a).aT=((c.aZ W).fail a).aT:=⟨V,rfl⟩;generalize ((c.aZ V).fail a).aT=o2 at *;simp[-ah,-aa,aW,hex]
  rw[h3]at h1;exact⟨W,v,h2,h1⟩
theorem oc(s:Sm):∀c:CK,c.fe=0->pS c->c.V.length+Sm.sz s<1000000000->qE c s:=by
 induction s using Sm.yu with
 |_ s sW k7=>
  intro c hf hw dF;have hz:=Sm.jM s;have E4:=E.dD s.es;cases h:cI c.sg.bO s.k s.es with
  |false=>exact aal c s (by omega) h|true=>
   have y7:∀d:CK,d.H=c.H->d.sg=c.sg->d.fe=0->pS d->d.V.length+Sm.cQ s.bd<1000000000->AJ d s.bd:=λd _ _ h1 h2 h3=>
    fh d s.bd h1 h2 h3 λx hx e _ _ g1 g2 g3=>sW x hx e g1 g2 g3
   have S4:∀d:CK,d.H=c.H->d.sg=c.sg->d.fe=0->pS d->d.V.length+Sm.cQ s.el<1000000000->AJ d s.el:=λd _ _ h1 h2 h3=>
    fh d s.el h1 h2 h3 λx hx e _ _ g1 g2 g3=>k7 x hx e g1 g2 g3
   rcases Np h with k|k|k|k|k|k|k|k|k;exact LF c s hf hw dF k h;exact LH c s hf hw dF k h;exact LI c s hf hw dF k h;exact LJ c s hf hw dF k h;exact LM c s hf hw dF k h y7 S4;exact LN c s hf hw dF k h y7;exact LO c s hf hw dF k h;exact LP c s hf hw dF k h;exact LQ c s hf hw dF k h
theorem Be(c:CK)(l:List Sm)(hf:c.fe=0)(hw:pS c)(dF:c.V.length+Sm.cQ l<1000000000):AJ c l:=
 fh c l hf hw dF λs _ d _ _ h1 h2 h3=>oc s d h1 h2 h3
end K9
namespace K9
open Ax Go bu V7 jG j9
theorem EA(wl af:Nat)(l:List Vd)(st:aj)(hn:l.length<1000000000):(bh S).call wl af 82 [br l] st=some (bD 4 (l.map Vd.row),st):=by
 refine bL (sf:=s82) rfl rfl (by simp[AV.ai]) rfl (by simp) ?_;cases l with
 |nil=>simp[s82,br,jB,Cu]|cons v l=>
  have hv:br (v::l)=.dL 4 ((v::l).map Vd.row):=rfl;have lJ:=dV (sz:=4) (bytes:=40) (r:=[]) (new:=(v::l).map Vd.row) (by simp[bN,Vd.row]) (by simp[cR]at hn ⊢;omega);rw[hv];simp only[List.nil_append]at lJ;have hm:bD 4 ((v::l).map Vd.row)=.iO 4 ((v::l).map Vd.row):=rfl;rw[hm]at lJ ⊢;have AO:nH 4 40 .mK ((v::l).map Vd.row)=some (.iO 4 ((v::l).map Vd.row)):=by
   simp[nH,bN,Vd.row,cR]at hn ⊢;omega
  generalize (v::l).map Vd.row=R at *;simp[s82,AO,Cu]
def CK.nL(c:CK)(g:Sg):CK:={ c with sg:=g,V:=g.ps }
theorem aaq{c:CK}{a:Int}:(c.fail a).V=c.V:=by unfold CK.fail;split<;>rfl
theorem H7(c:CK)(f:Fc)(g:Sg)(hf:c.fe=0)(hw:pS (c.nL g))(dF:g.ps.length+Sm.cQ f.body<1000000000):match ki c.H g.bO g.bz g.ps f.body with
  |.ok (ys,W)=>∀af,(bh S).call 0 af 42 [.ptr 0 0 0 0,.agg f.row,.agg g.row] [c.aT]=some (.agg [br W,bD 9 (Sm.rows ys),.int .i64 f.a],[((c.nL g).aZ W).aT])|.error a=>∀af,∃W v,aD v=true/\(bh S).call 0 af 42 [.ptr 0 0 0 0,.agg f.row,.agg g.row] [c.aT]=some (.agg [br W,v,.int .i64 f.a],[(((c.nL g).aZ W).fail a).aT]):=by
 have hB:=Be (c.nL g) f.body hf hw dF;unfold AJ at hB;have Cq:ki (c.nL g).H (c.nL g).sg.bO (c.nL g).sg.bz (c.nL g).V f.body=ki c.H g.bO g.bz g.ps f.body:=rfl;rw[Cq]at hB;have hV:=hw.s.V;have ec:=λwl af st=>EA wl af g.ps st (by exact hV);have h1:∀af bx,aV 0 af (.store 6) [.val (.ptr 0 0 0 5),.val (.agg g.row)] [c.aT] bx=some (.none,[({ c with sg:=g }:CK).aT],bx):=λaf bx=>by
  simp[CK.aT,Sg.row,aY,AV.ai,AV.ax,ag]
 have h2:∀af bx,aV 0 af (.store 1) [.val (.ptr 0 0 0 11),.val (bD 4 (g.ps.map Vd.row))] [({ c with sg:=g }:CK).aT] bx=some (.none,[(c.nL g).aT],bx):=λaf bx=>by
  simp[CK.aT,CK.nL,aY,AV.ai,ag]
 generalize ({ c with sg:=g }:CK).aT=o1 at *;have g1:aD (bD 4 (g.ps.map Vd.row))=true:=bY;generalize bD 4 (g.ps.map Vd.row)=mg at *;have g3:=bU g1;have g4:=ck g1;have p1:aD (br g.ps)=true:=dK;have p2:(br g.ps).view=br g.ps:=fC;have q1:aD (aS f.body)=true:=bn;have q2:(aS f.body).view=aS f.body:=aO;simp only[Sg.row]at h1 ⊢;simp only[Fc.row];cases hR:ki c.H g.bO g.bz g.ps f.body with
 |ok x=>
  obtain⟨ys,W⟩:=x;rw[hR]at hB;simp only at hB ⊢;intro af;have ev:=λwl af bx=>Ak (wl:=wl) (af:=af) (c:=(c.nL g).aZ W) (r:=[]) (bx:=bx);have hVW:((c.nL g).aZ W).V=W:=rfl;rw[hVW]at ev;generalize ((c.nL g).aZ W).aT=o3 at *;generalize (c.nL g).aT=o2 at *;have y1:aD (bD 9 (Sm.rows ys))=true:=bY;have y2:(bD 9 (Sm.rows ys)).view=aS ys:=rfl;have y3:=bU y1;have y4:=ck y1;generalize bD 9 (Sm.rows ys)=my at *;have w1:aD (br W)=true:=dK;have w2:(br W).view=br W:=fC;generalize br W=fw at *;generalize br g.ps=fg at *;generalize aS f.body=fb at *;refine ay (sf:=s42) rfl rfl rfl ?_;simp[-ah,-aa,s42,ec,h1,h2,hB,ev,p1,p2,q1,q2,w1,y1,ag,AV.view,AV.ax,AV.ai,au,an]
 |error a=>
  rw[hR]at hB;simp only at hB ⊢;intro af;obtain⟨W,v,v1,hB⟩:=hB 1;refine⟨W,v,v1,?_⟩;have ev:=λwl af bx=>Ak (wl:=wl) (af:=af) (c:=((c.nL g).aZ W).fail a) (r:=[]) (bx:=bx);have hVW:(((c.nL g).aZ W).fail a).V=W:=aaq;rw[hVW]at ev;generalize (((c.nL g).aZ W).fail a).aT=o3 at *;generalize (c.nL g).aT=o2 at *;have v3:=bU v1;have v4:=ck v1;have v5:aD v.view=true:=by rw[jY];exact v1
  have w1:aD (br W)=true:=dK;have w2:(br W).view=br W:=fC;generalize br W=fw at *;generalize br g.ps=fg at *;generalize aS f.body=fb at *;refine ay (sf:=s42) rfl rfl rfl ?_;simp[-ah,-aa,s42,ec,h1,h2,hB,ev,p1,p2,q1,q2,w1,v1,ag,AV.view,AV.ax,AV.ai,au,an]
open N7 U7 in
theorem Ap(p:Pg):iK (cj (iY p).aR)=cw p:=by
 rw[og];simp[iK,cw,Fs]
def jS(H:Hd)(m:Int):List AV:=[aA 2 (H.bK.map dw),br H.globals,aA 6 (H.sigs.map Sg.row),.int .i64 m]
theorem wM(rs:List (List UInt8))(l:List PD):dA rs l=(kR rs l).map Vd.row:=by
 simp only[dA,kR,List.map_map];exact List.map_congr_left λq _=>rfl
open N7 U7 in
def fW(p:Pg):Int:=tK (dN (iY p).funcs)
open N7 U7 in
theorem JZ(p:Pg):wF (iY p)=.agg (jS (aG p) (fW p)):=by
 unfold wF jS fW;have h1:jC (iK (cj (iY p).aR)) (cj (iY p).aR)=(aG p).bK.map dw:=by
  rw[Ap,og];simp only[jC,aG,List.map_map];exact List.map_congr_left λr _=>by simp only[Function.comp,Ba,Fs,oe,dw,wM];rfl
 have h2:dA (iK (cj (iY p).aR)) (iJ (iY p).globals)=(aG p).globals.map Vd.row:=by
  rw[Ap,Eo,wM];rfl
 have h3:fO (iK (cj (iY p).aR)) (dN (iY p).funcs)=(aG p).sigs.map Sg.row:=by
  rw[Ap,mY];simp only[fO,aG,List.map_map];refine List.map_congr_left λf _=>?_;simp only[Function.comp,iL,Cp,oe,Sg.row,wB,U7.oH,wM];obtain⟨n,ps,bO,on,od,body,a⟩:=f;cases bO<;>rfl
 rw[h1,h2,h3]
 rfl
theorem J0(p:Pg):(aG p).ok:=by
 refine⟨by simp[aG,cw],?_,?_,?_⟩;intro s hs f hf;simp only[aG]at hs;obtain⟨r,_,rfl⟩:=List.mem_map.1 hs;simp only[kR]at hf;obtain⟨q,_,rfl⟩:=List.mem_map.1 hf;exact mX _ _ _;intro f hf;simp only[aG,kR]at hf;obtain⟨q,_,rfl⟩:=List.mem_map.1 hf;exact mX _ _ _;intro s hs;simp only[aG]at hs;obtain⟨r,_,rfl⟩:=List.mem_map.1 hs;refine⟨?_,λf hf=>?_⟩;simp only[wB];split;exact mX _ _ _;exact Sv;simp only[wB,kR]at hf;obtain⟨q,_,rfl⟩:=List.mem_map.1 hf;exact mX _ _ _
abbrev Z5:AV:=.agg [.U,.U,.U,.int .i64 0,.U]
def uN(H:Hd)(m:Int)(r:Except Int (List Bd)):AV:=match r with
 |.error a=>.fm [Z5,.agg [.int .i64 3,.int .i64 a]]|.ok l=>.fm [.agg (jS H m++[aA 3 (l.map Bd.row)]),.agg [.int .i64 0,.int .i64 0]]
open N7 U7 in
def mI(p:Pg):AV:=match iS (iY p) with
 |some a=>.fm [Z5,.agg [.int .i64 3,.int .i64 a]]|none=>uN (aG p) (fW p) (qh (aG p) (aG p).sigs p.funcs)
def H8(bs:List Bd)(r:Except Int (List Bd)):Except Int (List Bd):=match r with
 |.error x=>.error x|.ok zs=>.ok (bs++zs)
theorem J1{H:Hd}{ss:List Sg}{fs:List Fc}{bs:List Bd}{k:Nat}(h:k<ss.length)(h2:k<fs.length):H8 bs (qh H (ss.drop k) (fs.drop k))=match ki H ss[k].bO ss[k].bz ss[k].ps fs[k].body with
  |.error x=>.error x|.ok (c,W)=>H8 (bs++[⟨W,c,fs[k].a⟩]) (qh H (ss.drop (k+1)) (fs.drop (k+1))):=by
 rw[List.drop_eq_getElem_cons h,List.drop_eq_getElem_cons h2];conv=>lhs;arg 2;unfold qh
 cases ki H ss[k].bO ss[k].bz ss[k].ps fs[k].body with
 |error x=>rfl|ok x=>
  obtain⟨c,W⟩:=x;simp only;cases qh H (List.drop (k+1) ss) (List.drop (k+1) fs) with
  |error x=>rfl|ok x=>simp[H8]
def CK.S5(c:CK)(w:AV):dy:=.rows 0 14 [[aA 2 (c.H.bK.map dw),br c.H.globals,aA 6 (c.H.sigs.map Sg.row),.int .i64 c.main,w,.str c.sg.nm,br c.sg.ps,.bool c.sg.bO,.int .i64 c.sg.bz.b,.int .i64 c.sg.bz.r,.int .i64 c.sg.bz.d,bD 4 (c.V.map Vd.row),.int .i64 c.fe,.int .i64 c.fa]]
def CK.aar(c:CK)(R:List (List UInt8)):CK:={ c with H:={ c.H with rs:=R } }
theorem Wb{af:Nat}{c:CK}{bx:bF}:aV 0 af (.load false 1 true) [.val (.ptr 0 0 0 4)] [c.aT] bx=some (.val (bD 1 (ga c.H.rs)),[c.S5 (bD 1 (ga c.H.rs)).dJ],bx):=by
 simp only[CK.aT,CK.S5];generalize ga c.H.rs=rows;cases rows with
 |nil=>simp[aV,bD,cut,dM,cV,aY,AV.dJ,AV.ax,AV.ai,ag,bP]|cons a l=>simp[aV,bD,cut,dM,cV,aY,AV.dJ,AV.ax,AV.ai,ag,bP]
theorem aas{af:Nat}{c:CK}{w:AV}{R:List (List UInt8)}{bx:bF}:aV 0 af (.store 1) [.val (.ptr 0 0 0 4),.val (bD 1 (ga R))] [c.S5 w] bx=some (.none,[(c.aar R).aT],bx):=by
 simp[CK.aT,CK.S5,CK.aar,aY,AV.ai,ag]
theorem LU{wl af:Nat}{c:CK}{r:aj}{bx:bF}:aV wl af (.load true 2 false) [.val (.ptr 0 0 0 12)] (c.aT::r) bx=some (.val (.agg [.int .i64 c.fe,.int .i64 c.fa]),c.aT::r,bx):=by
 simp[CK.aT,cut,AV.view]
def sg0:Sg:=⟨[],[],false,T0⟩
def Nq(H:Hd)(m:Int)(R:List (List UInt8)):CK:=⟨{ H with rs:=R },m,sg0,[],0,0⟩
theorem Wc{l:List Rc}{k:Nat}(h:k<l.length):(l.map Rc.row)[k]?=some [.str l[k].name,aA 4 (l[k].cP.map PD.cells),.int .i64 l[k].a]:=by simp[h,Rc.row]
theorem aat{l:List Fc}{k:Nat}(h:k<l.length):(l.map Fc.row)[k]?=some [.str l[k].name,aA 4 (l[k].params.map PD.cells),.bool l[k].bO,.str l[k].on,.int .i64 l[k].od,aS l[k].body,.int .i64 l[k].a]:=by simp[h,Fc.row]
theorem OX(H:Hd)(m:Int)(r:Except Int (List Bd)):(uN H m r).ax=true:=by
 cases r<;>simp[uN,jS,AV.ax,AV.ai]
theorem B1(p:Pg):(mI p).ax=true:=by
 unfold mI;split;simp[AV.ax,AV.ai];exact OX _ _ _
open N7 U7 in
theorem wN(wl af:Nat)(p:Pg)(st:aj)(hg:(iY p).ok)(o9:GD.sm (iY p))(dF:∀f∈p.funcs,f.params.length+Sm.cQ f.body<1000000000) :
  (bh S).call wl af 20 [.agg p.row] st=some (mI p,st):=by
 have em:∀wl af st,(bh S).call wl af 41 [.agg p.row] st=some (yY (iY p),st):=λwl af st=>xF wl af (iY p) st hg o9;refine bL (sf:=s20) rfl rfl (by simp[Pg.row,AV.ai,AV.ax]) rfl (B1 p) ?_;unfold mI;unfold yY at em;cases hF:iS (iY p) with
 |some a=>
  rw[hF]at em;simp only[qi,fE,fX,Pg.row]at em ⊢;simp[-ah,-aa,s20,em,ag,AV.view,au,an]
 |none=>
  rw[hF,JZ]at em;simp only[fE,fX,Pg.row,jS]at em ⊢;have IK:(Nq (aG p) (fW p) []).aT=.rows 0 14 [[aA 2 ((aG p).bK.map dw),br (aG p).globals,aA 6 ((aG p).sigs.map Sg.row),.int .i64 (fW p),.U,.str [],.U,.bool false,.int .i64 0,.int .i64 0,.int .i64 0,.U,.int .i64 0,.int .i64 0]]:=by
   simp[CK.aT,Nq,sg0,ga,jB,br]
  have vh:∀wl af bx,aV wl af (.box 14) [.val (.agg [aA 2 ((aG p).bK.map dw),br (aG p).globals,aA 6 ((aG p).sigs.map Sg.row),.int .i64 (fW p),.U,.str [],.U,.bool false,.int .i64 0,.int .i64 0,.int .i64 0,.U,.int .i64 0,.int .i64 0])] [] bx =
    some (.val (.ptr 0 0 0 0),[(Nq (aG p) (fW p) []).aT],bx):=λwl af bx=>by rw[IK];simp
  have t1:aD (aA 2 ((aG p).bK.map dw))=true:=aL;have t2:(aA 2 ((aG p).bK.map dw)).view=aA 2 ((aG p).bK.map dw):=aJ;have t3:aD (aA 6 ((aG p).sigs.map Sg.row))=true:=aL;have t4:(aA 6 ((aG p).sigs.map Sg.row)).view=aA 6 ((aG p).sigs.map Sg.row):=aJ;have t5:bX 6 (aA 6 ((aG p).sigs.map Sg.row))=true:=gf (by simp[bN,Sg.row]);have t6:aM (aA 6 ((aG p).sigs.map Sg.row))=(aG p).sigs.map Sg.row:=aE;have r1:aD (aA 3 (p.aR.map Rc.row))=true:=aL;have r2:(aA 3 (p.aR.map Rc.row)).view=aA 3 (p.aR.map Rc.row):=aJ;have r3:bX 3 (aA 3 (p.aR.map Rc.row))=true:=gf (by simp[bN,Rc.row]);have r4:aM (aA 3 (p.aR.map Rc.row))=p.aR.map Rc.row:=aE;have f1:aD (aA 7 (p.funcs.map Fc.row))=true:=aL;have f2:(aA 7 (p.funcs.map Fc.row)).view=aA 7 (p.funcs.map Fc.row):=aJ;have f3:bX 7 (aA 7 (p.funcs.map Fc.row))=true:=gf (by simp[bN,Fc.row]);have f4:aM (aA 7 (p.funcs.map Fc.row))=p.funcs.map Fc.row:=aE;have g1:aD (aA 4 (p.globals.map PD.cells))=true:=aL;have g2:(aA 4 (p.globals.map PD.cells)).view=aA 4 (p.globals.map PD.cells):=aJ;generalize hHS:aA 2 ((aG p).bK.map dw)=HS at *;generalize hHG:aA 6 ((aG p).sigs.map Sg.row)=HG at *;generalize aA 3 (p.aR.map Rc.row)=PR at *;generalize aA 7 (p.funcs.map Fc.row)=PF at *;generalize aA 4 (p.globals.map PD.cells)=PG at *;simp[-ah,-aa,-MN,s20,em,vh,t1,t2,t3,t4,r1,r2,r4,f1,f2,g1,g2,ag,AV.view];have P6:(cw p).length=p.aR.length:=by simp[cw]
  have OP:p.aR.length<1000000000:=by have:=o9.aR;rw[og,List.length_map]at this;exact this
  have Ga:p.funcs.length<1000000000:=by have:=o9.funcs;rw[mY,List.length_map]at this;exact this
  have hHr:(Nq (aG p) (fW p) (cw p)).H=aG p:=rfl;generalize hGL:br (aG p).globals=GL at *;have gl1:aD GL=true:=by rw[<-hGL];exact dK
  have gl2:GL.view=GL:=by rw[<-hGL];exact fC
  refine bf Q7.eq_1 (λx:Nat×List AV=>⟨[(1,.fp 0 0),(2,.fp 1 0),(3,.fp 2 0),(4,.fp 3 0),(6,.val (.ptr 0 0 0 0)),(26,.val PR),(27,.val (.int .i64 p.aR.length)),(28,.val (.int .i64 x.1))],
   [[PR,PG,PF],[.U,.U,.U,.int .i64 0,.U],[.int .i64 0,.int .i64 0],[HS,GL,HG,.int .i64 (fW p)],[.int .i64 0,.int .i64 0],x.2,[],[]],[(Nq (aG p) (fW p) ((cw p).take x.1)).aT]⟩)
   (λx=>x.1<=p.aR.length) (λx=>p.aR.length-x.1) (0,[]) (by simp) (by simp) ?_
  rintro⟨k,b⟩ hk ih;simp only at hk ih;by_cases aW:k<p.aR.length;have nK:=wk k (by omega);have gR:=Wc aW;have gR':∀h:k<(p.aR.map Rc.row).length,(p.aR.map Rc.row)[k]=[.str p.aR[k].name,aA 4 (p.aR[k].cP.map PD.cells),.int .i64 p.aR[k].a]:=λh=>by simp[Rc.row]
  have lJ:=dV (sz:=1) (bytes:=16) (r:=ga ((cw p).take k)) (new:=[[.str p.aR[k].name]]) (by simp[bN]) (by simp[cR,ga];omega);have VW:ga ((cw p).take k)++[[.str p.aR[k].name]]=ga ((cw p).take (k+1)):=by
   rw[List.take_succ_eq_append_getElem (by rw[P6];exact aW)];simp[ga,cw]
  rw[VW]at lJ;have et:=λaf bx=>Wb (af:=af) (c:=Nq (aG p) (fW p) ((cw p).take k)) (bx:=bx);have ep:=λaf bx=>aas (af:=af) (c:=Nq (aG p) (fW p) ((cw p).take k)) (w:=(bD 1 (ga ((cw p).take k))).dJ) (R:=(cw p).take (k+1)) (bx:=bx);have KC:(Nq (aG p) (fW p) ((cw p).take k)).aar ((cw p).take (k+1))=Nq (aG p) (fW p) ((cw p).take (k+1)):=rfl;rw[KC]at ep;have TS:(Nq (aG p) (fW p) ((cw p).take k)).H.rs=(cw p).take k:=rfl;rw[TS]at et;have dx:=λb=>ih (k+1,b) (by simp only;omega) (by simp only;omega);simp only at dx;generalize (Nq (aG p) (fW p) ((cw p).take (k+1))).aT=o1 at *;generalize (Nq (aG p) (fW p) ((cw p).take k)).S5 (bD 1 (ga ((cw p).take k))).dJ=o2 at *;generalize (Nq (aG p) (fW p) ((cw p).take k)).aT=o3 at *;generalize bD 1 (ga ((cw p).take (k+1)))=m1 at *;generalize bD 1 (ga ((cw p).take k))=m2 at *;generalize p.aR[k]=rc at *;simp[-ah,-aa,aX,aW,nK,r3,r4,gR',et,ep,lJ,ag,AV.view,au,an];exact dx _;have eK:k=p.aR.length:=by omega
  subst eK;have D2:(cw p).take p.aR.length=cw p:=by rw[<-P6,List.take_length]
  rw[D2];simp[-ah,-aa,t1,t2,t3,t4,f1,f2,f4,gl1,gl2,ag,AV.view];have cA:(aG p).sigs.length=p.funcs.length:=by simp[aG]
  have Wd:∀(d:CK) (g:Sg),d.H=aG p->g∈(aG p).sigs->pS (d.nL g):=λd g hd xY=>by
   have F7:=J0 p;have Kn:(aG p).globals.length<1000000000:=(by have:=o9.globals;rw[Eo]at this;simpa [aG,kR] using this);have hF:∀s∈(aG p).bK,s.2.length<1000000000:=λs hs=>by
    obtain⟨r,hr,rfl⟩:=List.mem_map.1 hs;have:=o9.cP (Fs r) (by rw[og];exact List.mem_map_of_mem hr);simpa [Fs,oe,kR] using this
   have hP:∀s∈(aG p).sigs,s.ps.length<1000000000:=λs hs=>by
    obtain⟨r,hr,rfl⟩:=List.mem_map.1 hs;have:=o9.params (Cp r) (by rw[mY];exact List.mem_map_of_mem hr);simpa [Cp,oe,wB,kR] using this
   refine⟨⟨hP g xY,?_,?_,?_,?_,?_⟩,?_,?_⟩;show d.H.globals.length<_;rw[hd];exact Kn;show d.H.sigs.length<_;rw[hd,cA];exact Ga;show d.H.rs.length<_;rw[hd];show (cw p).length<_;rw[P6];exact OP;show ∀s∈d.H.bK,_;rw[hd];exact hF;show ∀s∈d.H.sigs,_;rw[hd];exact hP;show d.H.ok;rw[hd];exact F7;show ∀f∈g.ps,WT d.H.rs.length f.ty;rw[hd];exact(F7.sigs g xY).2
  refine bf Q8.eq_1 (λx:Nat×List Bd×CK×List AV=>⟨[(2,.fp 1 0),(3,.fp 2 0),(4,.fp 3 0),(6,.val (.ptr 0 0 0 0)),(9,.fp 6 0),(47,.val PF),(48,.val (.int .i64 p.funcs.length)),(49,.val (.int .i64 x.1))],
   [[PR,PG,PF],[.U,.U,.U,.int .i64 0,.U],[.int .i64 0,.int .i64 0],[HS,GL,HG,.int .i64 (fW p)],[.int .i64 0,.int .i64 0],b,[HS,GL,HG,.int .i64 (fW p),bD 3 (x.2.1.map Bd.row)],x.2.2.2],[x.2.2.1.aT]⟩)
   (λx=>x.1<=p.funcs.length/\x.2.1.length=x.1/\x.2.2.1.H=aG p/\x.2.2.1.fe=0/\H8 x.2.1 (qh (aG p) ((aG p).sigs.drop x.1) (p.funcs.drop x.1))=qh (aG p) (aG p).sigs p.funcs)
   (λx=>p.funcs.length-x.1) (0,[],Nq (aG p) (fW p) (cw p),[]) (by simp[jB]) ⟨by simp,rfl,rfl,rfl,by simp[H8];split<;>rename_i h<;>exact h.symm⟩ ?_
  rintro⟨k,bs,d,b7⟩ ⟨hk,Yl,hd,hdf,hp⟩ ih;simp only at hk Yl hd hdf hp ih;by_cases qa:k<p.funcs.length;have nj:k<(aG p).sigs.length:=by omega
  have nK:=wk k (by omega);have gF:=aat qa;have gF':∀h:k<(p.funcs.map Fc.row).length,(p.funcs.map Fc.row)[k]=[.str p.funcs[k].name,aA 4 (p.funcs[k].params.map PD.cells),.bool p.funcs[k].bO,.str p.funcs[k].on,.int .i64 p.funcs[k].od,aS p.funcs[k].body,.int .i64 p.funcs[k].a]:=λh=>by simp[Fc.row]
  have gS:((aG p).sigs.map Sg.row)[k]?=some [.str (aG p).sigs[k].nm,br (aG p).sigs[k].ps,.bool (aG p).sigs[k].bO,.int .i64 (aG p).sigs[k].bz.b,.int .i64 (aG p).sigs[k].bz.r,.int .i64 (aG p).sigs[k].bz.d]:=by simp[nj,Sg.row]
  have yx:∀h:k<((aG p).sigs.map Sg.row).length,((aG p).sigs.map Sg.row)[k]=[.str (aG p).sigs[k].nm,br (aG p).sigs[k].ps,.bool (aG p).sigs[k].bO,.int .i64 (aG p).sigs[k].bz.b,.int .i64 (aG p).sigs[k].bz.r,.int .i64 (aG p).sigs[k].bz.d]:=λh=>by simp[Sg.row]
  rw[J1 nj qa]at hp;have Qv:(aG p).sigs[k].ps.length=p.funcs[k].params.length:=by simp[aG,wB,kR]
  have hB:=H7 d p.funcs[k] (aG p).sigs[k] hdf (Wd d _ hd (List.getElem_mem nj)) (by rw[Qv];exact dF _ (List.getElem_mem qa));rw[hd]at hB;have lJ:∀cs:List AV,cs.length=3->nH 3 56 (bD 3 (bs.map Bd.row)) [cs]=some (bD 3 (bs.map Bd.row++[cs])):=λcs hc=>dV (by simp[bN,hc]) (by simp[cR];omega);have ps1:aD (aA 4 (p.funcs[k].params.map PD.cells))=true:=aL;have ps2:(aA 4 (p.funcs[k].params.map PD.cells)).view=aA 4 (p.funcs[k].params.map PD.cells):=aJ;have bd1:aD (aS p.funcs[k].body)=true:=bn;have bd2:(aS p.funcs[k].body).view=aS p.funcs[k].body:=aO;have sp1:aD (br (aG p).sigs[k].ps)=true:=dK;have sp2:(br (aG p).sigs[k].ps).view=br (aG p).sigs[k].ps:=fC;simp only[Fc.row,Sg.row]at hB;generalize OY:(aG p).sigs.map Sg.row=RS at *;generalize hrF:p.funcs.map Fc.row=RF at *;have EB:k<RS.length:=by rw[<-OY,List.length_map];exact nj
  have LW:k<RF.length:=by rw[<-hrF,List.length_map];exact qa
  have EC:=yx EB;have S6:=gF' LW;clear yx gF';cases hR:ki (aG p) (aG p).sigs[k].bO (aG p).sigs[k].bz (aG p).sigs[k].ps p.funcs[k].body with
  |error a=>
   rw[hR]at hp hB;simp only at hp hB;obtain⟨W,v,v1,hB⟩:=hB 0;have xX:(((d.nL (aG p).sigs[k]).aZ W).fail a).fe=3/\(((d.nL (aG p).sigs[k]).aZ W).fail a).fa=a:=by
    have:((d.nL (aG p).sigs[k]).aZ W).fe=0:=hdf;unfold CK.fail;rw[if_pos this];exact⟨rfl,rfl⟩
   have fy:=λaf=>cT af (((d.nL (aG p).sigs[k]).aZ W).fail a) [];rw[decide_eq_false fV]at fy;have hcf:∀wl af bx,aV wl af (.load true 2 false) [.val (.ptr 0 0 0 12)] [(((d.nL (aG p).sigs[k]).aZ W).fail a).aT] bx=some (.val (.agg [.int .i64 3,.int .i64 a]),[(((d.nL (aG p).sigs[k]).aZ W).fail a).aT],bx):=λwl af bx=>by
    rw[LU,xX.1,xX.2]
   rw[<-hp];simp only[uN];generalize (((d.nL (aG p).sigs[k]).aZ W).fail a).aT=o1 at *;have w1:aD (br W)=true:=dK;have w2:(br W).view=br W:=fC;generalize br W=FW at *;have ap:=lJ [FW,v.view,.int .i64 p.funcs[k].a] rfl;have v2:=bU v1;have v3:=ck v1;have v4:aD v.view=true:=(by rw[jY];exact v1);generalize aA 4 (p.funcs[k].params.map PD.cells)=PP at *;generalize aS p.funcs[k].body=PB at *;generalize br (aG p).sigs[k].ps=SP at *;generalize bD 3 (bs.map Bd.row)=BL at *;generalize p.funcs[k]=fk at *;generalize (aG p).sigs[k]=gk at *;simp[-ah,-aa,aX,qa,f3,f4,S6,EC,EB,LW,t4,t5,t6,ps1,ps2,bd1,bd2,sp2,hB,w1,w2,v4,ap,fy,hcf,ag,AV.view,AV.ax,AV.ai,au,an]
  |ok x=>
   obtain⟨c,W⟩:=x;rw[hR]at hp hB;simp only at hp hB;have dx:=λb7=>ih (k+1,bs++[⟨W,c,p.funcs[k].a⟩],(d.nL (aG p).sigs[k]).aZ W,b7) ⟨by simp only;omega,by simp[Yl],hd,hdf,hp⟩ (by simp only;omega);simp only[List.map_append,List.map_cons,List.map_nil,Bd.row]at dx;have fy:=λaf=>cT af ((d.nL (aG p).sigs[k]).aZ W) [];rw[decide_eq_true (show ((d.nL (aG p).sigs[k]).aZ W).fe=0 from hdf)]at fy;generalize ((d.nL (aG p).sigs[k]).aZ W).aT=o1 at *;have w1:aD (br W)=true:=dK;have w2:(br W).view=br W:=fC;generalize br W=FW at *;have ap:=lJ [FW,aS c,.int .i64 p.funcs[k].a] rfl;have c1:aD (bD 9 (Sm.rows c))=true:=bY;have c2:(bD 9 (Sm.rows c)).view=aS c:=rfl;have c3:=bU c1;have c4:=ck c1;have c5:aD (aS c)=true:=bn;generalize bD 9 (Sm.rows c)=MC at *;generalize aS c=SC at *;generalize aA 4 (p.funcs[k].params.map PD.cells)=PP at *;generalize aS p.funcs[k].body=PB at *;generalize br (aG p).sigs[k].ps=SP at *;have n1:aD (bD 3 (bs.map Bd.row++[[FW,SC,.int .i64 p.funcs[k].a]]))=true:=bY;generalize bD 3 (bs.map Bd.row++[[FW,SC,.int .i64 p.funcs[k].a]])=BN at *;generalize bD 3 (bs.map Bd.row)=BL at *;generalize p.funcs[k]=fk at *;generalize (aG p).sigs[k]=gk at *;simp[-ah,-aa,aX,qa,nK,f3,f4,S6,EC,EB,LW,t4,t5,t6,ps1,ps2,bd1,bd2,sp2,hB,w1,w2,c2,c5,n1,ap,fy,ag,AV.view,AV.ax,AV.ai,au,an];exact dx _
  have eK:k=p.funcs.length:=by omega
  have hR:qh (aG p) (aG p).sigs p.funcs=.ok bs:=by
   rw[<-hp,eK,List.drop_length,<-cA,List.drop_length];simp[qh,H8]
  rw[hR];have n1:aD (bD 3 (bs.map Bd.row))=true:=bY;have n2:(bD 3 (bs.map Bd.row)).view=aA 3 (bs.map Bd.row):=rfl;have n3:=bU n1;have n4:aD (aA 3 (bs.map Bd.row))=true:=aL;simp only[uN,jS];rw[hHS,hHG,hGL];generalize bD 3 (bs.map Bd.row)=BL at *;generalize aA 3 (bs.map Bd.row)=BV at *;simp[-ah,-aa,qa,t1,t2,t3,t4,gl1,gl2,n2,n4,ag,AV.view]
end K9
