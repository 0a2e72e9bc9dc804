/- Part of a proof. -/
import Derived.Test.YtachcambnjecnaaGreatC
import Derived.Test.YtachcambnjecnaaGreatP
import Derived.Test.YtachcambnjecnaaGreatN

set_option maxRecDepth 100000
set_option maxHeartbeats 8000000
namespace K9
open Ax Go bu V7 jG ke
theorem uP{P:Prop}{es:List E}(h:es.length=1)(hp:∀e,es=[e]->P):P:=by
 match es,h with
 |[e],_=>exact hp e rfl
theorem k9(af:Nat)(c:CK)(s:Sm)(_hn:s.es.length<1000000000):(bh S).call 0 af 120 [.ptr 0 0 0 0,.agg s.row] [c.aU]=some (.bool (cJ c.sg.bP s.k s.es),[c.aU]):=by
 have cZ:=Sm.az s;have hz:bX 11 (aI s.es)=true:=iM;have cC:aD (aI s.es)=true:=aR;have dW:(aI s.es).view=aI s.es:=aN;have cP:aM (aI s.es)=E.rows s.es:=aE;have m0:((s.es.length:Int)=0)=(s.es.length=0):=by simp
 have m1:((s.es.length:Int)=1)=(s.es.length=1):=by apply propext;omega
 have m2:((s.es.length:Int)=2)=(s.es.length=2):=by apply propext;omega
 rw[cZ];generalize s.k=k at *;unfold cJ;by_cases h1:k=1;subst h1;refine ay (sf:=oP) rfl rfl rfl ?_;generalize aI s.es=kv at *;simp[-ah,-aa,oP,cC,dW,cP,AV.view];by_cases h4:k=4;subst h4;refine ay (sf:=oP) rfl rfl rfl ?_;simp only[if_neg h1,if_true];match jR:s.es,cP,m2 with
 |[e,e2],cP,m2=>
  rw[jR]at hz cC dW;simp only[E.rows]at cP;rw[E.az e,E.az e2]at cP;generalize aI [e,e2]=kv at *;by_cases q:e.k=5;simp[-ah,-aa,oP,aY,hz,cC,dW,cP,q,AV.view];simp[-ah,-aa,oP,aY,hz,cC,dW,cP,q,AV.view]
 |[],cP,m2=>
  rw[jR]at hz cC dW;generalize aI []=kv at *;simp[-ah,-aa,oP,cC,dW,cP,E.rows,AV.view]
 |[e],cP,m2=>
  rw[jR]at hz cC dW;simp only[E.rows]at cP;generalize aI [e]=kv at *;simp[-ah,-aa,oP,cC,dW,cP,AV.view]
 |e::e2::e3::l,cP,m2=>
  rw[jR]at hz cC dW;have O2:¬((E.rows (e::e2::e3::l)).length:Int)=2:=by simp;omega
  generalize aI (e::e2::e3::l)=kv at *;generalize E.rows (e::e2::e3::l)=rws at *;simp[-ah,-aa,oP,cC,dW,cP,O2,AV.view]
 by_cases h7:k=7;subst h7;refine ay (sf:=oP) rfl rfl rfl ?_;simp only[if_neg h1,if_neg h4,if_true];generalize aI s.es=kv at *;have hc:=λwl af r bx=>wJ (wl:=wl) (af:=af) (c:=c) (r:=r) (bx:=bx);cases hh:c.sg.bP with
 |false=>
  rw[hh]at hc;by_cases q1:s.es.length=1;simp[-ah,-aa,oP,cC,dW,cP,q1,hc,AV.view];by_cases q0:s.es.length=0;simp[-ah,-aa,oP,cC,dW,cP,q0,hc,AV.view];simp[-ah,-aa,oP,cC,dW,cP,m1,q0,q1,AV.view]
 |true=>
  rw[hh]at hc;by_cases q1:s.es.length=1;simp[-ah,-aa,oP,cC,dW,cP,q1,hc,AV.view];by_cases q0:s.es.length=0;simp[-ah,-aa,oP,cC,dW,cP,q0,hc,AV.view];simp[-ah,-aa,oP,cC,dW,cP,m1,q0,q1,AV.view]
 by_cases h9:k=9;subst h9;refine ay (sf:=oP) rfl rfl rfl ?_;simp only[if_neg h1,if_neg h4,if_neg h7,if_true];match jR:s.es,cP,m2 with
 |[e],cP,m2=>
  rw[jR]at hz cC dW;simp only[E.rows]at cP;rw[E.az e]at cP;generalize aI [e]=kv at *;simp[-ah,-aa,oP,aY,hz,cC,dW,cP,AV.view]
 |[],cP,m2=>
  rw[jR]at hz cC dW;generalize aI []=kv at *;simp[-ah,-aa,oP,cC,dW,cP,E.rows,AV.view]
 |e::e2::l,cP,m2=>
  rw[jR]at hz cC dW;have O2:¬((E.rows (e::e2::l)).length:Int)=1:=by simp;omega
  generalize aI (e::e2::l)=kv at *;generalize E.rows (e::e2::l)=rws at *;simp[-ah,-aa,oP,cC,dW,cP,O2,AV.view]
 refine ay (sf:=oP) rfl rfl rfl ?_;simp only[if_neg h1,if_neg h4,if_neg h7,if_neg h9];generalize aI s.es=kv at *;by_cases h2:k=2;subst h2;simp[-ah,-aa,oP,cC,dW,cP,m1,AV.view];by_cases h3:k=3;subst h3;simp[-ah,-aa,oP,cC,dW,cP,m1,AV.view];by_cases h5:k=5;subst h5;simp[-ah,-aa,oP,cC,dW,cP,m1,AV.view];by_cases h6:k=6;subst h6;simp[-ah,-aa,oP,cC,dW,cP,m1,AV.view];by_cases h8:k=8;subst h8;simp[-ah,-aa,oP,cC,dW,cP,m1,AV.view];simp[-ah,-aa,oP,h1,h2,h3,h4,h5,h6,h7,h8,h9,cC,AV.view]
def aaq(o:Option (Int×List Vd))(v:AV):Prop:=∃z:Int,v=.fm [.int .i64 z,.bool o.isSome]/\∀r W,o=some (r,W)->z=r
def nu(c:CK)(o:Option (Int×List Vd)):CK:=match o with|some (_,W)=>{ c with V:=W } | none=>c
theorem Wd(af:Nat)(c:CK)(s:Sm)(t:T3)(hs:oh c)(hf:cJ c.sg.bP s.k s.es=true) :
  ∃v,aaq (j6 c.H c.sg.bz c.V s.k s.nm s.es t) v/\(bh S).call 0 af 124 [.ptr 0 0 0 0,.agg s.row,.agg [.int .i64 t.b,.int .i64 t.r,.int .i64 t.d]] [c.aU]=some (v,[(nu c (j6 c.H c.sg.bz c.V s.k s.nm s.es t)).aU]):=by
 have eD:=λaf=>LI af c s.nm t hs;have eV:=λaf=>gO af c s.nm [] hs;have eN:=λwl af st=>Bh wl af st;have eT:=λwl af st=>Eu wl af st;have cZ:=Sm.az s;have hz:bX 11 (aI s.es)=true:=iM;have cC:aD (aI s.es)=true:=aR;have dW:(aI s.es).view=aI s.es:=aN;have cP:aM (aI s.es)=E.rows s.es:=aE;have one:∀j,s.k=j->(j=2\/j=3\/j=5\/j=6\/j=8)->∃x,s.es=[x]:=λj hj h=>by
  have hlen:s.es.length=1:=by
   rw[hj]at hf;rcases h with h|h|h|h|h<;>subst h<;>simpa [cJ] using hf
  match hh:s.es,hlen with
  |[x],_=>exact⟨x,rfl⟩
 have hV:=hs.V;rw[cZ];unfold j6;by_cases h1:s.k=1;rw[if_pos h1,h1];cases hl:eJ s.nm 0 c.V with
 |some x=>
  refine⟨.fm [.int .i64 0,.bool false],⟨0,rfl,λ_ _ h=>by cases h⟩,?_⟩;rw[hl]at eD;simp only[Ev]at eD;refine ay (sf:=nJ) rfl rfl rfl ?_;generalize aI s.es=kv at *;simp[-ah,-aa,nJ,eD,cC,nu,AV.view]
 |none=>
  refine⟨.fm [.int .i64 c.V.length,.bool true],⟨c.V.length,rfl,λ_ _ h=>by cases h;rfl⟩,?_⟩;rw[hl]at eD;simp only[Ev]at eD;simp only[nu];refine ay (sf:=nJ) rfl rfl rfl ?_;generalize aI s.es=kv at *;generalize ({ c with V:=c.V++[(⟨s.nm,t⟩:Vd)] }:CK).aU=Yp at *;simp[-ah,-aa,nJ,eD,cC,AV.view]
 rw[if_neg h1];by_cases h2:s.k=2;obtain⟨x,hx⟩:=one 2 h2 (by simp);rw[if_pos h2,h2];have a1:qS s.es=x.ty:=by rw[hx];rfl
 rw[a1];rw[show E.rows s.es=E.rows [x] from by rw[hx]]at cP;simp only[E.rows,E.az]at cP;generalize aI s.es=kv at *;by_cases q:x.ty=t;rw[if_pos q];rw[<-q]at eD ⊢;cases hl:eJ s.nm 0 c.V with
 |some y=>
  refine⟨.fm [.int .i64 0,.bool false],⟨0,rfl,λ_ _ h=>by cases h⟩,?_⟩;rw[hl]at eD;simp only[Ev]at eD;refine ay (sf:=nJ) rfl rfl rfl ?_;simp[-ah,-aa,nJ,eD,hz,cC,dW,cP,aY,nu,AV.view,au,an]
 |none=>
  refine⟨.fm [.int .i64 c.V.length,.bool true],⟨c.V.length,rfl,λ_ _ h=>by cases h;rfl⟩,?_⟩;rw[hl]at eD;simp only[Ev]at eD;simp only[nu];refine ay (sf:=nJ) rfl rfl rfl ?_;generalize ({ c with V:=c.V++[(⟨s.nm,x.ty⟩:Vd)] }:CK).aU=Yp at *;simp[-ah,-aa,nJ,eD,hz,cC,dW,cP,aY,AV.view,au,an]
 rw[if_neg q];refine⟨.fm [.int .i64 0,.bool false],⟨0,rfl,λ_ _ h=>by cases h⟩,?_⟩;refine ay (sf:=nJ) rfl rfl rfl ?_;simp[-ah,-aa,nJ,hz,cC,dW,cP,aY,dU,q,nu,AV.view,au,an];rw[if_neg h2];by_cases h3:s.k=3;obtain⟨x,hx⟩:=one 3 h3 (by simp);rw[if_pos h3,h3];have a1:qS s.es=x.ty:=by rw[hx];rfl
 rw[a1];rw[show E.rows s.es=E.rows [x] from by rw[hx]]at cP;simp only[E.rows,E.az]at cP;generalize aI s.es=kv at *;cases hv:rZ c.H c.V s.nm with
 |none=>
  refine⟨.fm [.int .i64 0,.bool false],⟨0,rfl,λ_ _ h=>by cases h⟩,?_⟩;rw[hv]at eV;simp only[wK]at eV;refine ay (sf:=nJ) rfl rfl rfl ?_;simp[-ah,-aa,nJ,eV,cC,nu,ag,AV.view,au,an]
 |some y=>
  obtain⟨u,r⟩:=y;rw[hv]at eV;simp only[wK]at eV;by_cases q:u=x.ty;refine⟨.fm [.int .i64 r,.bool true],⟨r,by simp[q],λ_ _ h=>by simp[q]at h;exact h.1⟩,?_⟩;simp only[if_pos q];refine ay (sf:=nJ) rfl rfl rfl ?_;simp[-ah,-aa,nJ,eV,hz,cC,dW,cP,aY,q,nu,ag,AV.view,au,an];refine⟨.fm [.int .i64 r,.bool false],⟨r,by simp[q],λ_ _ h=>by simp[q]at h⟩,?_⟩;simp only[if_neg q];refine ay (sf:=nJ) rfl rfl rfl ?_;simp[-ah,-aa,nJ,eV,hz,cC,dW,cP,aY,dU,q,nu,ag,AV.view,au,an]
 rw[if_neg h3];have lG:∀(p:Prop) [Decidable p],aaq (if p then some ((0:Int),c.V) else none) (.fm [.int .i64 0,.bool (decide p)]):=λp _=>by
  refine⟨0,?_,λr W h=>?_⟩;by_cases q:p<;>simp[q];split at h<;>cases h;rfl
 have S8:∀(p:Prop) [Decidable p],nu c (if p then some ((0:Int),c.V) else none)=c:=λp _=>by
  by_cases q:p<;>simp[q,nu]
 by_cases h4:s.k=4;rw[if_pos h4,h4];obtain⟨x,y,hx⟩:∃x y,s.es=[x,y]:=by
  rw[h4]at hf;unfold cJ at hf;match hh:s.es,hf with
  |[x,y],_=>exact⟨x,y,rfl⟩
 have a1:qS s.es=x.ty:=by rw[hx];rfl
 have a2:B0 s.es=y.ty:=by rw[hx];rfl
 rw[a1,a2];rw[show E.rows s.es=E.rows [x,y] from by rw[hx]]at cP;simp only[E.rows,E.az]at cP;generalize aI s.es=kv at *;refine⟨_,lG _,?_⟩;rw[S8];refine ay (sf:=nJ) rfl rfl rfl ?_;simp[-ah,-aa,nJ,hz,cC,dW,cP,aY,dU,AV.view,au,an];rw[if_neg h4];by_cases h5:s.k=5;obtain⟨x,hx⟩:=one 5 h5 (by simp);rw[if_pos (.inl h5),h5];have a1:qS s.es=x.ty:=by rw[hx];rfl
 rw[a1];rw[show E.rows s.es=E.rows [x] from by rw[hx]]at cP;simp only[E.rows,E.az]at cP;generalize aI s.es=kv at *;refine⟨_,lG _,?_⟩;rw[S8];refine ay (sf:=nJ) rfl rfl rfl ?_;simp[-ah,-aa,nJ,hz,cC,dW,cP,aY,eT,dB,AV.view,au,an];by_cases h6:s.k=6;obtain⟨x,hx⟩:=one 6 h6 (by simp);rw[if_pos (.inr h6),h6];have a1:qS s.es=x.ty:=by rw[hx];rfl
 rw[a1];rw[show E.rows s.es=E.rows [x] from by rw[hx]]at cP;simp only[E.rows,E.az]at cP;generalize aI s.es=kv at *;refine⟨_,lG _,?_⟩;rw[S8];refine ay (sf:=nJ) rfl rfl rfl ?_;simp[-ah,-aa,nJ,hz,cC,dW,cP,aY,eT,dB,AV.view,au,an];rw[if_neg (λh=>h.elim h5 h6)];by_cases h7:s.k=7;rw[if_pos h7,h7];refine⟨_,lG _,?_⟩;rw[S8];rw[h7]at hf;refine ay (sf:=nJ) rfl rfl rfl ?_;match jR:s.es with
 |[]=>
  rw[jR]at hz cC dW cP;generalize aI []=kv at *;simp[-ah,-aa,nJ,cC,dW,cP,E.rows,AV.view,au,an]
 |[x]=>
  rw[jR]at hz cC dW cP;simp only[E.rows,E.az]at cP;generalize aI [x]=kv at *;have a1:qS [x]=x.ty:=rfl;have cr:=λwl af r bx=>yy (wl:=wl) (af:=af) (c:=c) (r:=r) (bx:=bx);simp[-ah,-aa,nJ,hz,cC,dW,cP,aY,cr,dU,a1,AV.view,au,an]
 |x::y::l=>
  rw[jR]at hf;simp[cJ]at hf
 rw[if_neg h7];by_cases h8:s.k=8;obtain⟨x,hx⟩:=one 8 h8 (by simp);rw[if_pos h8,h8];have a1:qS s.es=x.ty:=by rw[hx];rfl
 rw[a1];rw[show E.rows s.es=E.rows [x] from by rw[hx]]at cP;simp only[E.rows,E.az]at cP;generalize aI s.es=kv at *;refine⟨_,lG _,?_⟩;rw[S8];refine ay (sf:=nJ) rfl rfl rfl ?_;simp[-ah,-aa,nJ,hz,cC,dW,cP,aY,eN,dI,AV.view,au,an];rw[if_neg h8];refine⟨.fm [.int .i64 0,.bool true],⟨0,rfl,λ_ _ h=>by cases h;rfl⟩,?_⟩;simp only[nu];refine ay (sf:=nJ) rfl rfl rfl ?_;generalize aI s.es=kv at *;simp[-ah,-aa,nJ,h1,h2,h3,h4,h5,h6,h7,h8,cC,AV.view]
end K9
namespace K9
open Ax Go bu V7 jG ke
def CK.aZ(c:CK)(W:List Vd):CK:={ c with V:=W }
def EC(r:List AV):Prop:=∃(k:Int)(nm on:List UInt8)(od:Int)(es bd el:AV)(a cH:Int),r=[.int .i64 k,.str nm,.str on,.int .i64 od,es,bd,el,.int .i64 a,.int .i64 cH]/\aD es=true/\aD bd=true/\aD el=true
abbrev Z9:List AV:=[.int .i64 0,.str [],.str [],.int .i64 0,.U,.U,.U,.int .i64 0,.int .i64 0]
theorem td:EC Z9:=⟨0,[],[],0,.U,.U,.U,0,0,rfl,rfl,rfl,rfl⟩
def qH(c:CK)(s:Sm):Prop:=match xW c.H c.sg.bP c.sg.bz c.V s with
 |.ok (y,W)=>∀af,(bh S).call 0 af 100 [.ptr 0 0 0 0,.agg s.row] [c.aU]=some (.agg y.row,[(c.aZ W).aU])|.error a=>∀af,∃W row,EC row/\(bh S).call 0 af 100 [.ptr 0 0 0 0,.agg s.row] [c.aU]=some (.agg row,[((c.aZ W).fail a).aU])
def AL(c:CK)(l:List Sm):Prop:=match kj c.H c.sg.bP c.sg.bz c.V l with
 |.ok (ys,W)=>∀af,(bh S).call 0 af 83 [.ptr 0 0 0 0,aT l] [c.aU]=some (bD 9 (Sm.rows ys),[(c.aZ W).aU])|.error a=>∀af,∃W v,aD v=true/\(bh S).call 0 af 83 [.ptr 0 0 0 0,aT l] [c.aU]=some (v,[((c.aZ W).fail a).aU])
theorem xK{c:CK}{W:List Vd}(h:pV c)(hW:∀f∈W,WT c.H.rs.length f.ty)(hl:W.length<1000000000):pV (c.aZ W):=⟨⟨hl,h.s.G,h.s.S,h.s.R,h.s.F,h.s.P⟩,h.H,hW⟩
theorem xL(af:Nat)(c:CK)(l:List Sm)(hf:c.fe≠0)(hn:l.length<1000000000):(bh S).call 0 af 83 [.ptr 0 0 0 0,aT l] [c.aU]=some (.U,[c.aU]):=by
 have hz:bX 9 (aT l)=true:=Al;have cC:aD (aT l)=true:=bn;have dW:(aT l).view=aT l:=aO;have cP:aM (aT l)=Sm.rows l:=aE;have gr:=λaf=>cU af c [];rw[decide_eq_false hf]at gr;refine ay (sf:=XK) rfl rfl rfl ?_;cases l with
 |nil=>
  generalize aT []=lv at *;rw[Sm.rows]at cP;simp[-ah,-aa,XK,cC,dW,cP];rw[qA DY.eq_1];simp[-ah,-aa]
 |cons s l=>
  have hlen:0<(Sm.rows (s::l)).length:=by simp
  have hg:(Sm.rows (s::l))[0]?=some s.row:=by simp[Sm.rows]
  have x9:∀h:0<(Sm.rows (s::l)).length,(Sm.rows (s::l))[0]=s.row:=λh=>by simp[Sm.rows]
  generalize aT (s::l)=lv at *;generalize Sm.rows (s::l)=rws at *;rw[Sm.az]at hg;have XX:0<rws.length:=hlen;have aeT:=x9 XX;rw[Sm.az]at aeT;simp[-ah,-aa,XK,cC,dW,cP];rw[qA DY.eq_1];simp[-ah,-aa,dW,cP,hz,XX,aeT,aY,gr,ag,AV.view]
theorem qI(af:Nat)(c:CK)(k:Int)(nm on:List UInt8)(od:Int)(ys:List E)(a:Int)(t:T3)(hs:oh c)(hf:cJ c.sg.bP k ys=true) :
  ∃v,aaq (j6 c.H c.sg.bz c.V k nm ys t) v/\(bh S).call 0 af 124 [.ptr 0 0 0 0,.agg (Sm.mk k nm on od ys [] [] a 0).row,.agg [.int .i64 t.b,.int .i64 t.r,.int .i64 t.d]] [c.aU]=some (v,[(nu c (j6 c.H c.sg.bz c.V k nm ys t)).aU]):=
 Wd af c (.mk k nm on od ys [] [] a 0) t hs hf
theorem aar(c:CK)(s:Sm)(hn:s.es.length<1000000000)(h:cJ c.sg.bP s.k s.es=false):qH c s:=by
 unfold qH;rw[nq,h];simp only[Bool.false_eq_true,if_false];intro af;refine⟨c.V,Z9,td,?_⟩;have nB:=λaf=>k9 af c s hn;rw[h]at nB;have en:=λwl af st=>lC wl af st;have oy:=λaf=>eX af c s.a [];have jO:c.aZ c.V=c:=rfl;rw[jO];rw[Sm.az s]at nB ⊢;generalize (c.fail s.a).aU=o at *;refine ay (sf:=fL) rfl rfl rfl ?_;simp[-ah,-aa,fL,nB,en,oy,ag,AV.view,AV.ax,AV.ai,aV,bG]
theorem LN(c:CK)(s:Sm)(hf:c.fe=0)(hw:pV c)(dH:c.V.length+Sm.sz s<1000000000)(hk:s.k=1)(h:cJ c.sg.bP s.k s.es=true):qH c s:=by
 unfold qH;have hz:=Sm.jM s;have E8:=E.dG s.es;have nB:=λaf=>k9 af c s (by omega);rw[h]at nB;have en:=λwl af st=>lC wl af st;have oy:=λaf=>eX af c s.a [];have fy:=λaf=>cU af c [];rw[decide_eq_true hf]at fy;have jO:c.aZ c.V=c:=rfl;have cZ:=Sm.az s;rw[hk]at cZ;rw[nq,h];rw[hk]at h ⊢;simp only[if_true];rw[cZ]at nB ⊢;have e1:aD (aI s.es)=true:=aR;have e2:(aI s.es).view=aI s.es:=aN;have b1:aD (aT s.bd)=true:=bn;have b2:(aT s.bd).view=aT s.bd:=aO;have l1:aD (aT s.el)=true:=bn;have l2:(aT s.el).view=aT s.el:=aO;have cY:=mB c s.es hf (by omega) (λe he=>eR c hf hw e (by have:=E.iA he;omega));have wM:tg c.H c.V 1 s.es=kN c.H c.V s.es:=sZ (by decide);have pU:=λwl af st=>Af wl af c.H.rs s.on s.od st hw.s.R;have J1:kT c.H 1 s.on s.od=if (bZ c.H.rs s.on s.od).2 then some (bZ c.H.rs s.on s.od).1 else none:=if_pos (by decide)
 rw[J1];unfold LJ at pU;have XU:=mY c.H.rs s.on s.od;generalize bZ c.H.rs s.on s.od=tt at *;obtain⟨t,b⟩:=tt;cases b with
 |false=>
  simp only[Bool.false_eq_true,if_false];intro af;refine⟨c.V,Z9,td,?_⟩;rw[jO];simp only at pU;generalize aI s.es=ev at *;generalize aT s.bd=bv at *;generalize aT s.el=lv at *;generalize (c.fail s.a).aU=o at *;refine ay (sf:=fL) rfl rfl rfl ?_;simp[-ah,-aa,fL,nB,en,e1,e2,b1,b2,l1,l2,uN,pU,oy,ag,AV.view,AV.ax,AV.ai,au,aV,bG,an]
 |true=>
 simp only[if_true];simp only at pU;rw[wM];cases hv:kN c.H c.V s.es with
 |error a=>
  rw[hv]at cY;simp only at cY ⊢;intro af;refine⟨c.V,Z9,td,?_⟩;rw[jO];obtain⟨v,cC,ev⟩:=cY 1;have Fk:=bU cC;have Cr:=ck cC;have gr:=λaf=>cU af (c.fail a) [];rw[decide_eq_false fV]at gr;generalize aI s.es=kv at *;generalize aT s.bd=bv at *;generalize aT s.el=lv at *;generalize (c.fail a).aU=o at *;refine ay (sf:=fL) rfl rfl rfl ?_;simp[-ah,-aa,fL,nB,en,e1,e2,b1,b2,l1,l2,uN,pU,ev,cC,gr,ag,AV.view,AV.ax,AV.ai,au,aV,bG,an]
 |ok ys=>
  rw[hv]at cY;simp only at cY ⊢;have pW:cJ c.sg.bP 1 ys=true:=nZ hv h;obtain⟨fv,⟨z,rfl,pe⟩,dw⟩:=qI 1 c 1 (cw 1 s.nm) (bH 1 s.on) (bJ 1 s.od) ys s.a t hw.s pW;simp only[n6]at pe dw;have mF:(Sm.mk 1 (cw 1 s.nm) (bH 1 s.on) (bJ 1 s.od) ys [] [] s.a 0).row=[.int .i64 1,.str s.nm,.str s.on,.int .i64 s.od,aI ys,.U,.U,.int .i64 s.a,.int .i64 0]:=by simp[Sm.row,Sm.rows,cw,bH,bJ]
  rw[mF]at dw;have m1:aD (bD 11 (E.rows ys))=true:=bY;have m2:(bD 11 (E.rows ys)).view=aI ys:=rfl;generalize bD 11 (E.rows ys)=mv at *;have m3:=bU m1;have m4:=ck m1;have y1:aD (aI ys)=true:=aR;have y2:(aI ys).view=aI ys:=aN;generalize B2:aI ys=yv at *;generalize aI s.es=kv at *;cases hT:j6 c.H c.sg.bz c.V 1 s.nm ys t with
  |none=>
   simp only;intro af;refine⟨c.V,Z9,td,?_⟩;rw[jO];rw[hT]at dw;simp only[Option.isSome_none,nu]at dw;generalize aT s.bd=bv at *;generalize aT s.el=lv at *;generalize (c.fail s.a).aU=o at *;refine ay (sf:=fL) rfl rfl rfl ?_;simp[-ah,-aa,fL,nB,en,e1,e2,b1,b2,l1,l2,uN,pU,cY,m1,m2,fy,dw,oy,ag,AV.view,AV.ax,AV.ai,au,aV,bG,an]
  |some x=>
   obtain⟨r,W⟩:=x;have pe:=pe r W hT;subst pe;rw[hT]at dw;simp only[Option.isSome_some,nu]at dw;have J3:({ c with V:=W }:CK)=c.aZ W:=rfl;rw[J3]at dw;simp only[show ¬((1:Int)=5) from by decide,show ¬((1:Int)=6) from by decide,if_false];intro af;have vu:(Sm.mk 1 (cw 1 s.nm) (bH 1 s.on) (bJ 1 s.od) ys [] [] s.a z).row=[.int .i64 1,.str s.nm,.str s.on,.int .i64 s.od,yv,.U,.U,.int .i64 s.a,.int .i64 z]:=(by simp[Sm.row,Sm.rows,cw,bH,bJ,B2]);show _=some (AV.agg (Sm.mk 1 (cw 1 s.nm) (bH 1 s.on) (bJ 1 s.od) ys [] [] s.a z).row,_);rw[vu];generalize aT s.bd=bv at *;generalize aT s.el=lv at *;generalize (c.aZ W).aU=o at *;refine ay (sf:=fL) rfl rfl rfl ?_;simp[-ah,-aa,fL,nB,en,e1,e2,b1,b2,l1,l2,uN,pU,cY,m1,m2,y1,fy,dw,ag,AV.view,AV.ax,AV.ai,au,aV,bG,an]
theorem LO(c:CK)(s:Sm)(hf:c.fe=0)(hw:pV c)(dH:c.V.length+Sm.sz s<1000000000)(hk:s.k=2)(h:cJ c.sg.bP s.k s.es=true):qH c s:=by
 unfold qH;have hz:=Sm.jM s;have E8:=E.dG s.es;have nB:=λaf=>k9 af c s (by omega);rw[h]at nB;have en:=λwl af st=>lC wl af st;have oy:=λaf=>eX af c s.a [];have fy:=λaf=>cU af c [];rw[decide_eq_true hf]at fy;have jO:c.aZ c.V=c:=rfl;have cZ:=Sm.az s;rw[hk]at cZ;rw[nq,h];rw[hk]at h ⊢;simp only[if_true];rw[cZ]at nB ⊢;have e1:aD (aI s.es)=true:=aR;have e2:(aI s.es).view=aI s.es:=aN;have b1:aD (aT s.bd)=true:=bn;have b2:(aT s.bd).view=aT s.bd:=aO;have l1:aD (aT s.el)=true:=bn;have l2:(aT s.el).view=aT s.el:=aO;have cY:=mB c s.es hf (by omega) (λe he=>eR c hf hw e (by have:=E.iA he;omega));have wM:tg c.H c.V 2 s.es=kN c.H c.V s.es:=sZ (by decide);have pU:=λwl af st=>Af wl af c.H.rs s.on s.od st hw.s.R;have J1:kT c.H 2 s.on s.od=if (bZ c.H.rs s.on s.od).2 then some (bZ c.H.rs s.on s.od).1 else none:=if_pos (by decide)
 rw[J1];unfold LJ at pU;have XU:=mY c.H.rs s.on s.od;generalize bZ c.H.rs s.on s.od=tt at *;obtain⟨t,b⟩:=tt;cases b with
 |false=>
  simp only[Bool.false_eq_true,if_false];intro af;refine⟨c.V,Z9,td,?_⟩;rw[jO];simp only at pU;generalize aI s.es=ev at *;generalize aT s.bd=bv at *;generalize aT s.el=lv at *;generalize (c.fail s.a).aU=o at *;refine ay (sf:=fL) rfl rfl rfl ?_;simp[-ah,-aa,fL,nB,en,e1,e2,b1,b2,l1,l2,uN,pU,oy,ag,AV.view,AV.ax,AV.ai,au,aV,bG,an]
 |true=>
 simp only[if_true];simp only at pU;rw[wM];cases hv:kN c.H c.V s.es with
 |error a=>
  rw[hv]at cY;simp only at cY ⊢;intro af;refine⟨c.V,Z9,td,?_⟩;rw[jO];obtain⟨v,cC,ev⟩:=cY 1;have Fk:=bU cC;have Cr:=ck cC;have gr:=λaf=>cU af (c.fail a) [];rw[decide_eq_false fV]at gr;generalize aI s.es=kv at *;generalize aT s.bd=bv at *;generalize aT s.el=lv at *;generalize (c.fail a).aU=o at *;refine ay (sf:=fL) rfl rfl rfl ?_;simp[-ah,-aa,fL,nB,en,e1,e2,b1,b2,l1,l2,uN,pU,ev,cC,gr,ag,AV.view,AV.ax,AV.ai,au,aV,bG,an]
 |ok ys=>
  rw[hv]at cY;simp only at cY ⊢;have pW:cJ c.sg.bP 2 ys=true:=nZ hv h;obtain⟨fv,⟨z,rfl,pe⟩,dw⟩:=qI 1 c 2 (cw 2 s.nm) (bH 2 s.on) (bJ 2 s.od) ys s.a t hw.s pW;simp only[n6]at pe dw;have mF:(Sm.mk 2 (cw 2 s.nm) (bH 2 s.on) (bJ 2 s.od) ys [] [] s.a 0).row=[.int .i64 2,.str s.nm,.str s.on,.int .i64 s.od,aI ys,.U,.U,.int .i64 s.a,.int .i64 0]:=by simp[Sm.row,Sm.rows,cw,bH,bJ]
  rw[mF]at dw;have m1:aD (bD 11 (E.rows ys))=true:=bY;have m2:(bD 11 (E.rows ys)).view=aI ys:=rfl;generalize bD 11 (E.rows ys)=mv at *;have m3:=bU m1;have m4:=ck m1;have y1:aD (aI ys)=true:=aR;have y2:(aI ys).view=aI ys:=aN;generalize B2:aI ys=yv at *;generalize aI s.es=kv at *;cases hT:j6 c.H c.sg.bz c.V 2 s.nm ys t with
  |none=>
   simp only;intro af;refine⟨c.V,Z9,td,?_⟩;rw[jO];rw[hT]at dw;simp only[Option.isSome_none,nu]at dw;generalize aT s.bd=bv at *;generalize aT s.el=lv at *;generalize (c.fail s.a).aU=o at *;refine ay (sf:=fL) rfl rfl rfl ?_;simp[-ah,-aa,fL,nB,en,e1,e2,b1,b2,l1,l2,uN,pU,cY,m1,m2,fy,dw,oy,ag,AV.view,AV.ax,AV.ai,au,aV,bG,an]
  |some x=>
   obtain⟨r,W⟩:=x;have pe:=pe r W hT;subst pe;rw[hT]at dw;simp only[Option.isSome_some,nu]at dw;have J3:({ c with V:=W }:CK)=c.aZ W:=rfl;rw[J3]at dw;simp only[show ¬((2:Int)=5) from by decide,show ¬((2:Int)=6) from by decide,if_false];intro af;have vu:(Sm.mk 2 (cw 2 s.nm) (bH 2 s.on) (bJ 2 s.od) ys [] [] s.a z).row=[.int .i64 2,.str s.nm,.str s.on,.int .i64 s.od,yv,.U,.U,.int .i64 s.a,.int .i64 z]:=(by simp[Sm.row,Sm.rows,cw,bH,bJ,B2]);show _=some (AV.agg (Sm.mk 2 (cw 2 s.nm) (bH 2 s.on) (bJ 2 s.od) ys [] [] s.a z).row,_);rw[vu];generalize aT s.bd=bv at *;generalize aT s.el=lv at *;generalize (c.aZ W).aU=o at *;refine ay (sf:=fL) rfl rfl rfl ?_;simp[-ah,-aa,fL,nB,en,e1,e2,b1,b2,l1,l2,uN,pU,cY,m1,m2,y1,fy,dw,ag,AV.view,AV.ax,AV.ai,au,aV,bG,an]
theorem LP(c:CK)(s:Sm)(hf:c.fe=0)(hw:pV c)(dH:c.V.length+Sm.sz s<1000000000)(hk:s.k=3)(h:cJ c.sg.bP s.k s.es=true):qH c s:=by
 unfold qH;have hz:=Sm.jM s;have E8:=E.dG s.es;have nB:=λaf=>k9 af c s (by omega);rw[h]at nB;have en:=λwl af st=>lC wl af st;have oy:=λaf=>eX af c s.a [];have fy:=λaf=>cU af c [];rw[decide_eq_true hf]at fy;have jO:c.aZ c.V=c:=rfl;have cZ:=Sm.az s;rw[hk]at cZ;rw[nq,h];rw[hk]at h ⊢;simp only[if_true];rw[cZ]at nB ⊢;have e1:aD (aI s.es)=true:=aR;have e2:(aI s.es).view=aI s.es:=aN;have b1:aD (aT s.bd)=true:=bn;have b2:(aT s.bd).view=aT s.bd:=aO;have l1:aD (aT s.el)=true:=bn;have l2:(aT s.el).view=aT s.el:=aO;have cY:=mB c s.es hf (by omega) (λe he=>eR c hf hw e (by have:=E.iA he;omega));have wM:tg c.H c.V 3 s.es=kN c.H c.V s.es:=sZ (by decide);have J1:kT c.H 3 s.on s.od=some T0:=if_neg (by decide);rw[J1];simp only;rw[wM];cases hv:kN c.H c.V s.es with
 |error a=>
  rw[hv]at cY;simp only at cY ⊢;intro af;refine⟨c.V,Z9,td,?_⟩;rw[jO];obtain⟨v,cC,ev⟩:=cY 1;have Fk:=bU cC;have Cr:=ck cC;have gr:=λaf=>cU af (c.fail a) [];rw[decide_eq_false fV]at gr;generalize aI s.es=kv at *;generalize aT s.bd=bv at *;generalize aT s.el=lv at *;generalize (c.fail a).aU=o at *;refine ay (sf:=fL) rfl rfl rfl ?_;simp[-ah,-aa,fL,nB,en,e1,e2,b1,b2,l1,l2,ev,cC,gr,ag,AV.view,AV.ax,AV.ai,aV,bG]
 |ok ys=>
  rw[hv]at cY;simp only at cY ⊢;have pW:cJ c.sg.bP 3 ys=true:=nZ hv h;obtain⟨fv,⟨z,rfl,pe⟩,dw⟩:=qI 1 c 3 (cw 3 s.nm) (bH 3 s.on) (bJ 3 s.od) ys s.a T0 hw.s pW;simp only[n6]at pe dw;have mF:(Sm.mk 3 (cw 3 s.nm) (bH 3 s.on) (bJ 3 s.od) ys [] [] s.a 0).row=[.int .i64 3,.str s.nm,.str [],.int .i64 0,aI ys,.U,.U,.int .i64 s.a,.int .i64 0]:=by simp[Sm.row,Sm.rows,cw,bH,bJ]
  rw[mF]at dw;have m1:aD (bD 11 (E.rows ys))=true:=bY;have m2:(bD 11 (E.rows ys)).view=aI ys:=rfl;generalize bD 11 (E.rows ys)=mv at *;have m3:=bU m1;have m4:=ck m1;have y1:aD (aI ys)=true:=aR;have y2:(aI ys).view=aI ys:=aN;generalize B2:aI ys=yv at *;generalize aI s.es=kv at *;cases hT:j6 c.H c.sg.bz c.V 3 s.nm ys T0 with
  |none=>
   simp only;intro af;refine⟨c.V,Z9,td,?_⟩;rw[jO];rw[hT]at dw;simp only[Option.isSome_none,nu]at dw;generalize aT s.bd=bv at *;generalize aT s.el=lv at *;generalize (c.fail s.a).aU=o at *;refine ay (sf:=fL) rfl rfl rfl ?_;simp[-ah,-aa,fL,nB,en,e1,e2,b1,b2,l1,l2,cY,m1,m2,fy,dw,oy,ag,AV.view,AV.ax,AV.ai,aV,bG]
  |some x=>
   obtain⟨r,W⟩:=x;have pe:=pe r W hT;subst pe;rw[hT]at dw;simp only[Option.isSome_some,nu]at dw;have J3:({ c with V:=W }:CK)=c.aZ W:=rfl;rw[J3]at dw;simp only[show ¬((3:Int)=5) from by decide,show ¬((3:Int)=6) from by decide,if_false];intro af;have vu:(Sm.mk 3 (cw 3 s.nm) (bH 3 s.on) (bJ 3 s.od) ys [] [] s.a z).row=[.int .i64 3,.str s.nm,.str [],.int .i64 0,yv,.U,.U,.int .i64 s.a,.int .i64 z]:=(by simp[Sm.row,Sm.rows,cw,bH,bJ,B2]);show _=some (AV.agg (Sm.mk 3 (cw 3 s.nm) (bH 3 s.on) (bJ 3 s.od) ys [] [] s.a z).row,_);rw[vu];generalize aT s.bd=bv at *;generalize aT s.el=lv at *;generalize (c.aZ W).aU=o at *;refine ay (sf:=fL) rfl rfl rfl ?_;simp[-ah,-aa,fL,nB,en,e1,e2,b1,b2,l1,l2,cY,m1,m2,y1,fy,dw,ag,AV.view,AV.ax,AV.ai,aV,bG]
theorem LQ(c:CK)(s:Sm)(hf:c.fe=0)(hw:pV c)(dH:c.V.length+Sm.sz s<1000000000)(hk:s.k=4)(h:cJ c.sg.bP s.k s.es=true):qH c s:=by
 unfold qH;have hz:=Sm.jM s;have E8:=E.dG s.es;have nB:=λaf=>k9 af c s (by omega);rw[h]at nB;have en:=λwl af st=>lC wl af st;have oy:=λaf=>eX af c s.a [];have fy:=λaf=>cU af c [];rw[decide_eq_true hf]at fy;have jO:c.aZ c.V=c:=rfl;have cZ:=Sm.az s;rw[hk]at cZ;rw[nq,h];rw[hk]at h ⊢;simp only[if_true];rw[cZ]at nB ⊢;have e1:aD (aI s.es)=true:=aR;have e2:(aI s.es).view=aI s.es:=aN;have b1:aD (aT s.bd)=true:=bn;have b2:(aT s.bd).view=aT s.bd:=aO;have l1:aD (aT s.el)=true:=bn;have l2:(aT s.el).view=aT s.el:=aO;have cY:=mB c s.es hf (by omega) (λe he=>eR c hf hw e (by have:=E.iA he;omega));have wM:tg c.H c.V 4 s.es=kN c.H c.V s.es:=sZ (by decide);have J1:kT c.H 4 s.on s.od=some T0:=if_neg (by decide);rw[J1];simp only;rw[wM];cases hv:kN c.H c.V s.es with
 |error a=>
  rw[hv]at cY;simp only at cY ⊢;intro af;refine⟨c.V,Z9,td,?_⟩;rw[jO];obtain⟨v,cC,ev⟩:=cY 1;have Fk:=bU cC;have Cr:=ck cC;have gr:=λaf=>cU af (c.fail a) [];rw[decide_eq_false fV]at gr;generalize aI s.es=kv at *;generalize aT s.bd=bv at *;generalize aT s.el=lv at *;generalize (c.fail a).aU=o at *;refine ay (sf:=fL) rfl rfl rfl ?_;simp[-ah,-aa,fL,nB,en,e1,e2,b1,b2,l1,l2,ev,cC,gr,ag,AV.view,AV.ax,AV.ai,aV,bG]
 |ok ys=>
  rw[hv]at cY;simp only at cY ⊢;have pW:cJ c.sg.bP 4 ys=true:=nZ hv h;obtain⟨fv,⟨z,rfl,pe⟩,dw⟩:=qI 1 c 4 (cw 4 s.nm) (bH 4 s.on) (bJ 4 s.od) ys s.a T0 hw.s pW;simp only[n6]at pe dw;have mF:(Sm.mk 4 (cw 4 s.nm) (bH 4 s.on) (bJ 4 s.od) ys [] [] s.a 0).row=[.int .i64 4,.str [],.str [],.int .i64 0,aI ys,.U,.U,.int .i64 s.a,.int .i64 0]:=by simp[Sm.row,Sm.rows,cw,bH,bJ]
  rw[mF]at dw;have m1:aD (bD 11 (E.rows ys))=true:=bY;have m2:(bD 11 (E.rows ys)).view=aI ys:=rfl;generalize bD 11 (E.rows ys)=mv at *;have m3:=bU m1;have m4:=ck m1;have y1:aD (aI ys)=true:=aR;have y2:(aI ys).view=aI ys:=aN;generalize B2:aI ys=yv at *;generalize aI s.es=kv at *;cases hT:j6 c.H c.sg.bz c.V 4 s.nm ys T0 with
  |none=>
   simp only;intro af;refine⟨c.V,Z9,td,?_⟩;rw[jO];rw[hT]at dw;simp only[Option.isSome_none,nu]at dw;generalize aT s.bd=bv at *;generalize aT s.el=lv at *;generalize (c.fail s.a).aU=o at *;refine ay (sf:=fL) rfl rfl rfl ?_;simp[-ah,-aa,fL,nB,en,e1,e2,b1,b2,l1,l2,cY,m1,m2,fy,dw,oy,ag,AV.view,AV.ax,AV.ai,aV,bG]
  |some x=>
   obtain⟨r,W⟩:=x;have pe:=pe r W hT;subst pe;rw[hT]at dw;simp only[Option.isSome_some,nu]at dw;have J3:({ c with V:=W }:CK)=c.aZ W:=rfl;rw[J3]at dw;simp only[show ¬((4:Int)=5) from by decide,show ¬((4:Int)=6) from by decide,if_false];intro af;have vu:(Sm.mk 4 (cw 4 s.nm) (bH 4 s.on) (bJ 4 s.od) ys [] [] s.a z).row=[.int .i64 4,.str [],.str [],.int .i64 0,yv,.U,.U,.int .i64 s.a,.int .i64 z]:=(by simp[Sm.row,Sm.rows,cw,bH,bJ,B2]);show _=some (AV.agg (Sm.mk 4 (cw 4 s.nm) (bH 4 s.on) (bJ 4 s.od) ys [] [] s.a z).row,_);rw[vu];generalize aT s.bd=bv at *;generalize aT s.el=lv at *;generalize (c.aZ W).aU=o at *;refine ay (sf:=fL) rfl rfl rfl ?_;simp[-ah,-aa,fL,nB,en,e1,e2,b1,b2,l1,l2,cY,m1,m2,y1,fy,dw,ag,AV.view,AV.ax,AV.ai,aV,bG]
end K9
namespace K9
open Ax Go bu V7 jG ke
theorem LR(c:CK)(s:Sm)(hf:c.fe=0)(hw:pV c)(dH:c.V.length+Sm.sz s<1000000000)(hk:s.k=5)(h:cJ c.sg.bP s.k s.es=true)(y9:∀d:CK,d.H=c.H->d.sg=c.sg->d.fe=0->pV d->d.V.length+Sm.cR s.bd<1000000000->AL d s.bd)(Ta:∀d:CK,d.H=c.H->d.sg=c.sg->d.fe=0->pV d->d.V.length+Sm.cR s.el<1000000000->AL d s.el):qH c s:=by
 unfold qH;have hz:=Sm.jM s;have E8:=E.dG s.es;have nB:=λaf=>k9 af c s (by omega);rw[h]at nB;have en:=λwl af st=>lC wl af st;have oy:=λaf=>eX af c s.a [];have fy:=λaf=>cU af c [];rw[decide_eq_true hf]at fy;have jO:c.aZ c.V=c:=rfl;have cZ:=Sm.az s;rw[hk]at cZ;rw[nq,h];rw[hk]at h ⊢;simp only[if_true];rw[cZ]at nB ⊢;have e1:aD (aI s.es)=true:=aR;have e2:(aI s.es).view=aI s.es:=aN;have b1:aD (aT s.bd)=true:=bn;have b2:(aT s.bd).view=aT s.bd:=aO;have l1:aD (aT s.el)=true:=bn;have l2:(aT s.el).view=aT s.el:=aO;have cY:=mB c s.es hf (by omega) (λe he=>eR c hf hw e (by have:=E.iA he;omega));have wM:tg c.H c.V 5 s.es=kN c.H c.V s.es:=sZ (by decide);have J1:kT c.H 5 s.on s.od=some T0:=if_neg (by decide);rw[J1];simp only;rw[wM];cases hv:kN c.H c.V s.es with
 |error a=>
  rw[hv]at cY;simp only at cY ⊢;intro af;refine⟨c.V,Z9,td,?_⟩;rw[jO];obtain⟨v,cC,ev⟩:=cY 1;have Fk:=bU cC;have Cr:=ck cC;have gr:=λaf=>cU af (c.fail a) [];rw[decide_eq_false fV]at gr;generalize aI s.es=kv at *;generalize aT s.bd=bv at *;generalize aT s.el=lv at *;generalize (c.fail a).aU=o at *;refine ay (sf:=fL) rfl rfl rfl ?_;simp[-ah,-aa,fL,nB,en,e1,e2,b1,b2,l1,l2,ev,cC,gr,ag,AV.view,AV.ax,AV.ai,aV,bG]
 |ok ys=>
  rw[hv]at cY;simp only at cY ⊢;have pW:cJ c.sg.bP 5 ys=true:=nZ hv h;obtain⟨fv,⟨z,rfl,pe⟩,dw⟩:=qI 1 c 5 (cw 5 s.nm) (bH 5 s.on) (bJ 5 s.od) ys s.a T0 hw.s pW;simp only[n6]at pe dw;have mF:(Sm.mk 5 (cw 5 s.nm) (bH 5 s.on) (bJ 5 s.od) ys [] [] s.a 0).row=[.int .i64 5,.str [],.str [],.int .i64 0,aI ys,.U,.U,.int .i64 s.a,.int .i64 0]:=by simp[Sm.row,Sm.rows,cw,bH,bJ]
  rw[mF]at dw;have m1:aD (bD 11 (E.rows ys))=true:=bY;have m2:(bD 11 (E.rows ys)).view=aI ys:=rfl;generalize bD 11 (E.rows ys)=mv at *;have m3:=bU m1;have m4:=ck m1;have y1:aD (aI ys)=true:=aR;have y2:(aI ys).view=aI ys:=aN;generalize B2:aI ys=yv at *;generalize aI s.es=kv at *;cases hT:j6 c.H c.sg.bz c.V 5 s.nm ys T0 with
  |none=>
   simp only;intro af;refine⟨c.V,Z9,td,?_⟩;rw[jO];rw[hT]at dw;simp only[Option.isSome_none,nu]at dw;generalize aT s.bd=bv at *;generalize aT s.el=lv at *;generalize (c.fail s.a).aU=o at *;refine ay (sf:=fL) rfl rfl rfl ?_;simp[-ah,-aa,fL,nB,en,e1,e2,b1,b2,l1,l2,cY,m1,m2,fy,dw,oy,ag,AV.view,AV.ax,AV.ai,aV,bG]
  |some x=>
   obtain⟨r,W⟩:=x;have pe:=pe r W hT;subst pe;rw[hT]at dw;simp only[Option.isSome_some,nu]at dw;have J3:({ c with V:=W }:CK)=c.aZ W:=rfl;rw[J3]at dw;have hfw:=JL hT;have XY:W=c.V:=by
    rcases hfw with e|⟨e,_⟩;exact e;rcases e with e|e<;>cases e
   have hwW:pV (c.aZ W):=(by rw[XY];exact hw);have NQ:=Sm.dG s.bd;have hll:=Sm.dG s.el;have hB:=y9 (c.aZ W) rfl rfl hf hwW (by show W.length+_<_;rw[XY];omega);unfold AL at hB;have Ct:kj (c.aZ W).H (c.aZ W).sg.bP (c.aZ W).sg.bz (c.aZ W).V s.bd=kj c.H c.sg.bP c.sg.bz W s.bd:=rfl;rw[Ct]at hB;dsimp only;cases hb:kj c.H c.sg.bP c.sg.bz W s.bd with
   |error a=>
    rw[hb]at hB;simp only at hB ⊢;intro af;obtain⟨W',v,v1,ev⟩:=hB 1;have oz:(c.aZ W).aZ W'=c.aZ W':=rfl;rw[oz]at ev;have v3:=bU v1;have v4:=ck v1;have v5:aD v.view=true:=(by rw[jY];exact v1);have eB:=λaf=>xL af ((c.aZ W').fail a) s.el fV (by omega);refine⟨W',[.int .i64 5,.str [],.str [],.int .i64 0,yv,v.view,.U,.int .i64 s.a,.int .i64 z],⟨_,_,_,_,_,_,_,_,_,rfl,y1,v5,rfl⟩,?_⟩;generalize aT s.bd=bv at *;generalize aT s.el=lv at *;generalize (c.aZ W).aU=o at *;generalize ((c.aZ W').fail a).aU=o2 at *;refine ay (sf:=fL) rfl rfl rfl ?_;simp[-ah,-aa,fL,nB,en,e1,e2,b1,b2,l1,l2,cY,m1,m2,y1,fy,dw,ev,v1,v5,eB,ag,AV.view,AV.ax,AV.ai,aV,bG]
   |ok x=>
    obtain⟨bs,W1⟩:=x;rw[hb]at hB;simp only at hB ⊢;have oz:(c.aZ W).aZ W1=c.aZ W1:=rfl;rw[oz]at hB;have q1:aD (bD 9 (Sm.rows bs))=true:=bY;have q2:(bD 9 (Sm.rows bs)).view=aT bs:=rfl;have q3:=bU q1;have q4:=ck q1;have q5:aD (aT bs)=true:=bn;obtain⟨w1,w2⟩:=Ly (by rw[XY];exact hw.V) hb;have ajd:pV (c.aZ W1):=xK hw w1 (by rw[XY]at w2;omega);have hL:=Ta (c.aZ W1) rfl rfl hf ajd (by show W1.length+_<_;rw[XY]at w2;omega);unfold AL at hL;have Ct:kj (c.aZ W1).H (c.aZ W1).sg.bP (c.aZ W1).sg.bz (c.aZ W1).V s.el=kj c.H c.sg.bP c.sg.bz W1 s.el:=rfl;rw[Ct]at hL;generalize bD 9 (Sm.rows bs)=mb at *;cases hc:kj c.H c.sg.bP c.sg.bz W1 s.el with
    |error a=>
     rw[hc]at hL;simp only at hL ⊢;intro af;obtain⟨W',v,v1,ev⟩:=hL 1;have oz:(c.aZ W1).aZ W'=c.aZ W':=rfl;rw[oz]at ev;have v3:=bU v1;have v4:=ck v1;have v5:aD v.view=true:=(by rw[jY];exact v1);refine⟨W',[.int .i64 5,.str [],.str [],.int .i64 0,yv,aT bs,v.view,.int .i64 s.a,.int .i64 z],⟨_,_,_,_,_,_,_,_,_,rfl,y1,q5,v5⟩,?_⟩;generalize aT bs=bsv at *;generalize aT s.bd=bv at *;generalize aT s.el=lv at *;generalize (c.aZ W).aU=o at *;generalize (c.aZ W1).aU=o2 at *;generalize ((c.aZ W').fail a).aU=o3 at *;refine ay (sf:=fL) rfl rfl rfl ?_;simp[-ah,-aa,fL,nB,en,e1,e2,b1,b2,l1,l2,cY,m1,m2,y1,fy,dw,hB,ev,v1,v5,q1,q2,q5,ag,AV.view,AV.ax,AV.ai,aV,bG]
    |ok x=>
     obtain⟨ls,W2⟩:=x;rw[hc]at hL;simp only at hL ⊢;have oz:(c.aZ W1).aZ W2=c.aZ W2:=rfl;rw[oz]at hL;have p1:aD (bD 9 (Sm.rows ls))=true:=bY;have p2:(bD 9 (Sm.rows ls)).view=aT ls:=rfl;have p3:=bU p1;have p4:=ck p1;have p5:aD (aT ls)=true:=bn;intro af;have vu:(Sm.mk 5 (cw 5 s.nm) (bH 5 s.on) (bJ 5 s.od) ys bs ls s.a z).row=[.int .i64 5,.str [],.str [],.int .i64 0,yv,aT bs,aT ls,.int .i64 s.a,.int .i64 z]:=(by simp[Sm.row,cw,bH,bJ,B2,aT]);show _=some (AV.agg (Sm.mk 5 (cw 5 s.nm) (bH 5 s.on) (bJ 5 s.od) ys bs ls s.a z).row,_);rw[vu];generalize bD 9 (Sm.rows ls)=ml at *;generalize aT bs=bsv at *;generalize aT ls=lsv at *;generalize aT s.bd=bv at *;generalize aT s.el=lv at *;generalize (c.aZ W).aU=o at *;generalize (c.aZ W1).aU=o2 at *;generalize (c.aZ W2).aU=o3 at *;refine ay (sf:=fL) rfl rfl rfl ?_;simp[-ah,-aa,fL,nB,en,e1,e2,b1,b2,l1,l2,cY,m1,m2,y1,fy,dw,hB,hL,q1,q2,q5,p1,p2,p5,ag,AV.view,AV.ax,AV.ai,aV,bG]
theorem LU(c:CK)(s:Sm)(hf:c.fe=0)(hw:pV c)(dH:c.V.length+Sm.sz s<1000000000)(hk:s.k=6)(h:cJ c.sg.bP s.k s.es=true)(y9:∀d:CK,d.H=c.H->d.sg=c.sg->d.fe=0->pV d->d.V.length+Sm.cR s.bd<1000000000->AL d s.bd):qH c s:=by
 unfold qH;have hz:=Sm.jM s;have E8:=E.dG s.es;have nB:=λaf=>k9 af c s (by omega);rw[h]at nB;have en:=λwl af st=>lC wl af st;have oy:=λaf=>eX af c s.a [];have fy:=λaf=>cU af c [];rw[decide_eq_true hf]at fy;have jO:c.aZ c.V=c:=rfl;have cZ:=Sm.az s;rw[hk]at cZ;rw[nq,h];rw[hk]at h ⊢;simp only[if_true];rw[cZ]at nB ⊢;have e1:aD (aI s.es)=true:=aR;have e2:(aI s.es).view=aI s.es:=aN;have b1:aD (aT s.bd)=true:=bn;have b2:(aT s.bd).view=aT s.bd:=aO;have l1:aD (aT s.el)=true:=bn;have l2:(aT s.el).view=aT s.el:=aO;have cY:=mB c s.es hf (by omega) (λe he=>eR c hf hw e (by have:=E.iA he;omega));have wM:tg c.H c.V 6 s.es=kN c.H c.V s.es:=sZ (by decide);have J1:kT c.H 6 s.on s.od=some T0:=if_neg (by decide);rw[J1];simp only;rw[wM];cases hv:kN c.H c.V s.es with
 |error a=>
  rw[hv]at cY;simp only at cY ⊢;intro af;refine⟨c.V,Z9,td,?_⟩;rw[jO];obtain⟨v,cC,ev⟩:=cY 1;have Fk:=bU cC;have Cr:=ck cC;have gr:=λaf=>cU af (c.fail a) [];rw[decide_eq_false fV]at gr;generalize aI s.es=kv at *;generalize aT s.bd=bv at *;generalize aT s.el=lv at *;generalize (c.fail a).aU=o at *;refine ay (sf:=fL) rfl rfl rfl ?_;simp[-ah,-aa,fL,nB,en,e1,e2,b1,b2,l1,l2,ev,cC,gr,ag,AV.view,AV.ax,AV.ai,aV,bG]
 |ok ys=>
  rw[hv]at cY;simp only at cY ⊢;have pW:cJ c.sg.bP 6 ys=true:=nZ hv h;obtain⟨fv,⟨z,rfl,pe⟩,dw⟩:=qI 1 c 6 (cw 6 s.nm) (bH 6 s.on) (bJ 6 s.od) ys s.a T0 hw.s pW;simp only[n6]at pe dw;have mF:(Sm.mk 6 (cw 6 s.nm) (bH 6 s.on) (bJ 6 s.od) ys [] [] s.a 0).row=[.int .i64 6,.str [],.str [],.int .i64 0,aI ys,.U,.U,.int .i64 s.a,.int .i64 0]:=by simp[Sm.row,Sm.rows,cw,bH,bJ]
  rw[mF]at dw;have m1:aD (bD 11 (E.rows ys))=true:=bY;have m2:(bD 11 (E.rows ys)).view=aI ys:=rfl;generalize bD 11 (E.rows ys)=mv at *;have m3:=bU m1;have m4:=ck m1;have y1:aD (aI ys)=true:=aR;have y2:(aI ys).view=aI ys:=aN;generalize B2:aI ys=yv at *;generalize aI s.es=kv at *;cases hT:j6 c.H c.sg.bz c.V 6 s.nm ys T0 with
  |none=>
   simp only;intro af;refine⟨c.V,Z9,td,?_⟩;rw[jO];rw[hT]at dw;simp only[Option.isSome_none,nu]at dw;generalize aT s.bd=bv at *;generalize aT s.el=lv at *;generalize (c.fail s.a).aU=o at *;refine ay (sf:=fL) rfl rfl rfl ?_;simp[-ah,-aa,fL,nB,en,e1,e2,b1,b2,l1,l2,cY,m1,m2,fy,dw,oy,ag,AV.view,AV.ax,AV.ai,aV,bG]
  |some x=>
   obtain⟨r,W⟩:=x;have pe:=pe r W hT;subst pe;rw[hT]at dw;simp only[Option.isSome_some,nu]at dw;have J3:({ c with V:=W }:CK)=c.aZ W:=rfl;rw[J3]at dw;have hfw:=JL hT;have XY:W=c.V:=by
    rcases hfw with e|⟨e,_⟩;exact e;rcases e with e|e<;>cases e
   have hwW:pV (c.aZ W):=(by rw[XY];exact hw);have NQ:=Sm.dG s.bd;have hll:=Sm.dG s.el;have hB:=y9 (c.aZ W) rfl rfl hf hwW (by show W.length+_<_;rw[XY];omega);unfold AL at hB;have Ct:kj (c.aZ W).H (c.aZ W).sg.bP (c.aZ W).sg.bz (c.aZ W).V s.bd=kj c.H c.sg.bP c.sg.bz W s.bd:=rfl;rw[Ct]at hB;simp only[show ¬((6:Int)=5) from by decide,if_false];cases hb:kj c.H c.sg.bP c.sg.bz W s.bd with
   |error a=>
    rw[hb]at hB;simp only at hB ⊢;intro af;obtain⟨W',v,v1,ev⟩:=hB 1;have oz:(c.aZ W).aZ W'=c.aZ W':=rfl;rw[oz]at ev;have v3:=bU v1;have v4:=ck v1;have v5:aD v.view=true:=(by rw[jY];exact v1);have eB:=λaf=>xL af ((c.aZ W').fail a) s.el fV (by omega);refine⟨W',[.int .i64 6,.str [],.str [],.int .i64 0,yv,v.view,.U,.int .i64 s.a,.int .i64 z],⟨_,_,_,_,_,_,_,_,_,rfl,y1,v5,rfl⟩,?_⟩;generalize aT s.bd=bv at *;generalize aT s.el=lv at *;generalize (c.aZ W).aU=o at *;generalize ((c.aZ W').fail a).aU=o2 at *;refine ay (sf:=fL) rfl rfl rfl ?_;simp[-ah,-aa,fL,nB,en,e1,e2,b1,b2,l1,l2,cY,m1,m2,y1,fy,dw,ev,v1,v5,ag,AV.view,AV.ax,AV.ai,aV,bG]
   |ok x=>
    obtain⟨bs,W1⟩:=x;rw[hb]at hB;simp only at hB ⊢;have oz:(c.aZ W).aZ W1=c.aZ W1:=rfl;rw[oz]at hB;have q1:aD (bD 9 (Sm.rows bs))=true:=bY;have q2:(bD 9 (Sm.rows bs)).view=aT bs:=rfl;have q3:=bU q1;have q4:=ck q1;have q5:aD (aT bs)=true:=bn;intro af;have vu:(Sm.mk 6 (cw 6 s.nm) (bH 6 s.on) (bJ 6 s.od) ys bs [] s.a z).row=[.int .i64 6,.str [],.str [],.int .i64 0,yv,aT bs,.U,.int .i64 s.a,.int .i64 z]:=(by simp[Sm.row,Sm.rows,cw,bH,bJ,B2,aT]);show _=some (AV.agg (Sm.mk 6 (cw 6 s.nm) (bH 6 s.on) (bJ 6 s.od) ys bs [] s.a z).row,_);rw[vu];generalize bD 9 (Sm.rows bs)=mb at *;generalize aT bs=bsv at *;generalize aT s.bd=bv at *;generalize aT s.el=lv at *;generalize (c.aZ W).aU=o at *;generalize (c.aZ W1).aU=o2 at *;refine ay (sf:=fL) rfl rfl rfl ?_;simp[-ah,-aa,fL,nB,en,e1,e2,b1,b2,l1,l2,cY,m1,m2,y1,fy,dw,hB,q1,q2,q5,ag,AV.view,AV.ax,AV.ai,aV,bG]
theorem LW(c:CK)(s:Sm)(hf:c.fe=0)(hw:pV c)(dH:c.V.length+Sm.sz s<1000000000)(hk:s.k=7)(h:cJ c.sg.bP s.k s.es=true):qH c s:=by
 unfold qH;have hz:=Sm.jM s;have E8:=E.dG s.es;have nB:=λaf=>k9 af c s (by omega);rw[h]at nB;have en:=λwl af st=>lC wl af st;have oy:=λaf=>eX af c s.a [];have fy:=λaf=>cU af c [];rw[decide_eq_true hf]at fy;have jO:c.aZ c.V=c:=rfl;have cZ:=Sm.az s;rw[hk]at cZ;rw[nq,h];rw[hk]at h ⊢;simp only[if_true];rw[cZ]at nB ⊢;have e1:aD (aI s.es)=true:=aR;have e2:(aI s.es).view=aI s.es:=aN;have b1:aD (aT s.bd)=true:=bn;have b2:(aT s.bd).view=aT s.bd:=aO;have l1:aD (aT s.el)=true:=bn;have l2:(aT s.el).view=aT s.el:=aO;have cY:=mB c s.es hf (by omega) (λe he=>eR c hf hw e (by have:=E.iA he;omega));have wM:tg c.H c.V 7 s.es=kN c.H c.V s.es:=sZ (by decide);have J1:kT c.H 7 s.on s.od=some T0:=if_neg (by decide);rw[J1];simp only;rw[wM];cases hv:kN c.H c.V s.es with
 |error a=>
  rw[hv]at cY;simp only at cY ⊢;intro af;refine⟨c.V,Z9,td,?_⟩;rw[jO];obtain⟨v,cC,ev⟩:=cY 1;have Fk:=bU cC;have Cr:=ck cC;have gr:=λaf=>cU af (c.fail a) [];rw[decide_eq_false fV]at gr;generalize aI s.es=kv at *;generalize aT s.bd=bv at *;generalize aT s.el=lv at *;generalize (c.fail a).aU=o at *;refine ay (sf:=fL) rfl rfl rfl ?_;simp[-ah,-aa,fL,nB,en,e1,e2,b1,b2,l1,l2,ev,cC,gr,ag,AV.view,AV.ax,AV.ai,aV,bG]
 |ok ys=>
  rw[hv]at cY;simp only at cY ⊢;have pW:cJ c.sg.bP 7 ys=true:=nZ hv h;obtain⟨fv,⟨z,rfl,pe⟩,dw⟩:=qI 1 c 7 (cw 7 s.nm) (bH 7 s.on) (bJ 7 s.od) ys s.a T0 hw.s pW;simp only[n6]at pe dw;have mF:(Sm.mk 7 (cw 7 s.nm) (bH 7 s.on) (bJ 7 s.od) ys [] [] s.a 0).row=[.int .i64 7,.str [],.str [],.int .i64 0,aI ys,.U,.U,.int .i64 s.a,.int .i64 0]:=by simp[Sm.row,Sm.rows,cw,bH,bJ]
  rw[mF]at dw;have m1:aD (bD 11 (E.rows ys))=true:=bY;have m2:(bD 11 (E.rows ys)).view=aI ys:=rfl;generalize bD 11 (E.rows ys)=mv at *;have m3:=bU m1;have m4:=ck m1;have y1:aD (aI ys)=true:=aR;have y2:(aI ys).view=aI ys:=aN;generalize B2:aI ys=yv at *;generalize aI s.es=kv at *;cases hT:j6 c.H c.sg.bz c.V 7 s.nm ys T0 with
  |none=>
   simp only;intro af;refine⟨c.V,Z9,td,?_⟩;rw[jO];rw[hT]at dw;simp only[Option.isSome_none,nu]at dw;generalize aT s.bd=bv at *;generalize aT s.el=lv at *;generalize (c.fail s.a).aU=o at *;refine ay (sf:=fL) rfl rfl rfl ?_;simp[-ah,-aa,fL,nB,en,e1,e2,b1,b2,l1,l2,cY,m1,m2,fy,dw,oy,ag,AV.view,AV.ax,AV.ai,aV,bG]
  |some x=>
   obtain⟨r,W⟩:=x;have pe:=pe r W hT;subst pe;rw[hT]at dw;simp only[Option.isSome_some,nu]at dw;have J3:({ c with V:=W }:CK)=c.aZ W:=rfl;rw[J3]at dw;simp only[show ¬((7:Int)=5) from by decide,show ¬((7:Int)=6) from by decide,if_false];intro af;have vu:(Sm.mk 7 (cw 7 s.nm) (bH 7 s.on) (bJ 7 s.od) ys [] [] s.a z).row=[.int .i64 7,.str [],.str [],.int .i64 0,yv,.U,.U,.int .i64 s.a,.int .i64 z]:=(by simp[Sm.row,Sm.rows,cw,bH,bJ,B2]);show _=some (AV.agg (Sm.mk 7 (cw 7 s.nm) (bH 7 s.on) (bJ 7 s.od) ys [] [] s.a z).row,_);rw[vu];generalize aT s.bd=bv at *;generalize aT s.el=lv at *;generalize (c.aZ W).aU=o at *;refine ay (sf:=fL) rfl rfl rfl ?_;simp[-ah,-aa,fL,nB,en,e1,e2,b1,b2,l1,l2,cY,m1,m2,y1,fy,dw,ag,AV.view,AV.ax,AV.ai,aV,bG]
theorem LX(c:CK)(s:Sm)(hf:c.fe=0)(hw:pV c)(dH:c.V.length+Sm.sz s<1000000000)(hk:s.k=8)(h:cJ c.sg.bP s.k s.es=true):qH c s:=by
 unfold qH;have hz:=Sm.jM s;have E8:=E.dG s.es;have nB:=λaf=>k9 af c s (by omega);rw[h]at nB;have en:=λwl af st=>lC wl af st;have oy:=λaf=>eX af c s.a [];have fy:=λaf=>cU af c [];rw[decide_eq_true hf]at fy;have jO:c.aZ c.V=c:=rfl;have cZ:=Sm.az s;rw[hk]at cZ;rw[nq,h];rw[hk]at h ⊢;simp only[if_true];rw[cZ]at nB ⊢;have e1:aD (aI s.es)=true:=aR;have e2:(aI s.es).view=aI s.es:=aN;have b1:aD (aT s.bd)=true:=bn;have b2:(aT s.bd).view=aT s.bd:=aO;have l1:aD (aT s.el)=true:=bn;have l2:(aT s.el).view=aT s.el:=aO;have cY:=mB c s.es hf (by omega) (λe he=>eR c hf hw e (by have:=E.iA he;omega));have wM:tg c.H c.V 8 s.es=kN c.H c.V s.es:=sZ (by decide);have J1:kT c.H 8 s.on s.od=some T0:=if_neg (by decide);rw[J1];simp only;rw[wM];cases hv:kN c.H c.V s.es with
 |error a=>
  rw[hv]at cY;simp only at cY ⊢;intro af;refine⟨c.V,Z9,td,?_⟩;rw[jO];obtain⟨v,cC,ev⟩:=cY 1;have Fk:=bU cC;have Cr:=ck cC;have gr:=λaf=>cU af (c.fail a) [];rw[decide_eq_false fV]at gr;generalize aI s.es=kv at *;generalize aT s.bd=bv at *;generalize aT s.el=lv at *;generalize (c.fail a).aU=o at *;refine ay (sf:=fL) rfl rfl rfl ?_;simp[-ah,-aa,fL,nB,en,e1,e2,b1,b2,l1,l2,ev,cC,gr,ag,AV.view,AV.ax,AV.ai,aV,bG]
 |ok ys=>
  rw[hv]at cY;simp only at cY ⊢;have pW:cJ c.sg.bP 8 ys=true:=nZ hv h;obtain⟨fv,⟨z,rfl,pe⟩,dw⟩:=qI 1 c 8 (cw 8 s.nm) (bH 8 s.on) (bJ 8 s.od) ys s.a T0 hw.s pW;simp only[n6]at pe dw;have mF:(Sm.mk 8 (cw 8 s.nm) (bH 8 s.on) (bJ 8 s.od) ys [] [] s.a 0).row=[.int .i64 8,.str [],.str [],.int .i64 0,aI ys,.U,.U,.int .i64 s.a,.int .i64 0]:=by simp[Sm.row,Sm.rows,cw,bH,bJ]
  rw[mF]at dw;have m1:aD (bD 11 (E.rows ys))=true:=bY;have m2:(bD 11 (E.rows ys)).view=aI ys:=rfl;generalize bD 11 (E.rows ys)=mv at *;have m3:=bU m1;have m4:=ck m1;have y1:aD (aI ys)=true:=aR;have y2:(aI ys).view=aI ys:=aN;generalize B2:aI ys=yv at *;generalize aI s.es=kv at *;cases hT:j6 c.H c.sg.bz c.V 8 s.nm ys T0 with
  |none=>
   simp only;intro af;refine⟨c.V,Z9,td,?_⟩;rw[jO];rw[hT]at dw;simp only[Option.isSome_none,nu]at dw;generalize aT s.bd=bv at *;generalize aT s.el=lv at *;generalize (c.fail s.a).aU=o at *;refine ay (sf:=fL) rfl rfl rfl ?_;simp[-ah,-aa,fL,nB,en,e1,e2,b1,b2,l1,l2,cY,m1,m2,fy,dw,oy,ag,AV.view,AV.ax,AV.ai,aV,bG]
  |some x=>
   obtain⟨r,W⟩:=x;have pe:=pe r W hT;subst pe;rw[hT]at dw;simp only[Option.isSome_some,nu]at dw;have J3:({ c with V:=W }:CK)=c.aZ W:=rfl;rw[J3]at dw;simp only[show ¬((8:Int)=5) from by decide,show ¬((8:Int)=6) from by decide,if_false];intro af;have vu:(Sm.mk 8 (cw 8 s.nm) (bH 8 s.on) (bJ 8 s.od) ys [] [] s.a z).row=[.int .i64 8,.str [],.str [],.int .i64 0,yv,.U,.U,.int .i64 s.a,.int .i64 z]:=(by simp[Sm.row,Sm.rows,cw,bH,bJ,B2]);show _=some (AV.agg (Sm.mk 8 (cw 8 s.nm) (bH 8 s.on) (bJ 8 s.od) ys [] [] s.a z).row,_);rw[vu];generalize aT s.bd=bv at *;generalize aT s.el=lv at *;generalize (c.aZ W).aU=o at *;refine ay (sf:=fL) rfl rfl rfl ?_;simp[-ah,-aa,fL,nB,en,e1,e2,b1,b2,l1,l2,cY,m1,m2,y1,fy,dw,ag,AV.view,AV.ax,AV.ai,aV,bG]
theorem LY(c:CK)(s:Sm)(hf:c.fe=0)(hw:pV c)(dH:c.V.length+Sm.sz s<1000000000)(hk:s.k=9)(h:cJ c.sg.bP s.k s.es=true):qH c s:=by
 unfold qH;have hz:=Sm.jM s;have E8:=E.dG s.es;have nB:=λaf=>k9 af c s (by omega);rw[h]at nB;have en:=λwl af st=>lC wl af st;have oy:=λaf=>eX af c s.a [];have fy:=λaf=>cU af c [];rw[decide_eq_true hf]at fy;have jO:c.aZ c.V=c:=rfl;have cZ:=Sm.az s;rw[hk]at cZ;rw[nq,h];rw[hk]at h ⊢;simp only[if_true];rw[cZ]at nB ⊢;have e1:aD (aI s.es)=true:=aR;have e2:(aI s.es).view=aI s.es:=aN;have b1:aD (aT s.bd)=true:=bn;have b2:(aT s.bd).view=aT s.bd:=aO;have l1:aD (aT s.el)=true:=bn;have l2:(aT s.el).view=aT s.el:=aO;obtain⟨e,jR,hek⟩:=Lz h;have hze:bX 11 (aI s.es)=true:=iM;have cP:aM (aI s.es)=E.rows s.es:=aE;have hX:=eR c hf hw e (by have:E.sz e<=E.cR s.es:=E.iA (by rw[jR];exact List.mem_cons_self);omega);unfold J0 at hX;have wM:tg c.H c.V 9 s.es=match xE c.H c.V e with|.error x=>.error x|.ok y=>.ok [y]:=by rw[jR];exact SF
 rw[show E.rows s.es=E.rows [e] from by rw[jR]]at cP;simp only[E.rows,E.az]at cP;have J1:kT c.H 9 s.on s.od=some T0:=if_neg (by decide);rw[J1];simp only;rw[wM];cases hv:xE c.H c.V e with
 |error a=>
  rw[hv]at hX;simp only at hX ⊢;intro af;refine⟨c.V,Z9,td,?_⟩;rw[jO];obtain⟨y,ev⟩:=hX 1;have gr:=λaf=>cU af (c.fail a) [];rw[decide_eq_false fV]at gr;rw[E.az e,E.az y]at ev;generalize aI s.es=kv at *;generalize aT s.bd=bv at *;generalize aT s.el=lv at *;generalize (c.fail a).aU=o at *;refine ay (sf:=fL) rfl rfl rfl ?_;simp[-ah,-aa,fL,nB,en,e1,e2,b1,b2,l1,l2,hze,cP,aY,ev,gr,ag,AV.view,AV.ax,AV.ai,aV,bG]
 |ok y=>
  rw[hv]at hX;simp only at hX ⊢;have pW:cJ c.sg.bP 9 [y]=true:=by simp[cJ,Nk hv,hek]
  obtain⟨fv,⟨z,rfl,pe⟩,dw⟩:=qI 1 c 9 (cw 9 s.nm) (bH 9 s.on) (bJ 9 s.od) [y] s.a T0 hw.s pW;simp only[n6]at pe dw;have mF:(Sm.mk 9 (cw 9 s.nm) (bH 9 s.on) (bJ 9 s.od) [y] [] [] s.a 0).row=[.int .i64 9,.str [],.str [],.int .i64 0,aI [y],.U,.U,.int .i64 s.a,.int .i64 0]:=by simp[Sm.row,Sm.rows,cw,bH,bJ]
  rw[mF]at dw;have B2:aI [y]=.dM 11 [y.row]:=by simp[aI,E.rows]
  rw[B2]at dw;rw[E.az y]at dw hX B2;rw[E.az e]at hX;generalize aI s.es=kv at *;cases hT:j6 c.H c.sg.bz c.V 9 s.nm [y] T0 with
  |none=>
   simp only;intro af;refine⟨c.V,Z9,td,?_⟩;rw[jO];rw[hT]at dw;simp only[Option.isSome_none,nu]at dw;generalize aT s.bd=bv at *;generalize aT s.el=lv at *;generalize (c.fail s.a).aU=o at *;refine ay (sf:=fL) rfl rfl rfl ?_;simp[-ah,-aa,fL,nB,en,e1,e2,b1,b2,l1,l2,hze,cP,aY,hX,fy,dw,oy,ag,AV.view,AV.ax,AV.ai,aV,bG]
  |some x=>
   obtain⟨r,W⟩:=x;have pe:=pe r W hT;subst pe;rw[hT]at dw;simp only[Option.isSome_some,nu]at dw;have J3:({ c with V:=W }:CK)=c.aZ W:=rfl;rw[J3]at dw;simp only[show ¬((9:Int)=5) from by decide,show ¬((9:Int)=6) from by decide,if_false];intro af;have vu:(Sm.mk 9 (cw 9 s.nm) (bH 9 s.on) (bJ 9 s.od) [y] [] [] s.a z).row=[.int .i64 9,.str [],.str [],.int .i64 0,aI [y],.U,.U,.int .i64 s.a,.int .i64 z]:=(by simp[Sm.row,Sm.rows,cw,bH,bJ]);show _=some (AV.agg (Sm.mk 9 (cw 9 s.nm) (bH 9 s.on) (bJ 9 s.od) [y] [] [] s.a z).row,_);rw[vu];generalize aT s.bd=bv at *;generalize aT s.el=lv at *;generalize (c.aZ W).aU=o at *;refine ay (sf:=fL) rfl rfl rfl ?_;simp[-ah,-aa,fL,nB,en,e1,e2,b1,b2,l1,l2,hze,cP,aY,hX,B2,fy,dw,ag,AV.view,AV.ax,AV.ai,aV,bG]
end K9
namespace K9
open Ax Go bu V7 jG ke
theorem Nv{bP:Bool}{k:Int}{es:List E}(h:cJ bP k es=true):k=1\/k=2\/k=3\/k=4\/k=5\/k=6\/k=7\/k=8\/k=9:=by
 by_cases h1:k=1;exact .inl h1;by_cases h4:k=4;omega;by_cases h7:k=7;omega;by_cases h9:k=9;omega;unfold cJ at h;rw[if_neg h1,if_neg h4,if_neg h7,if_neg h9]at h;split at h;omega;cases h
theorem ED{H:Hd}{bP:Bool}{bz:T3}{V:List Vd}{l:List Sm}{k:Nat}(h:k<l.length):kj H bP bz V (l.drop k)=match xW H bP bz V l[k] with
  |.error x=>.error x|.ok (y,W)=>match kj H bP bz W (l.drop (k+1)) with
   |.error x=>.error x|.ok (ys,X)=>.ok (y::ys,X):=by
 rw[List.drop_eq_getElem_cons h];conv=>lhs;unfold kj
 rfl
def Ia(ys:List Sm)(r:Except Int (List Sm×List Vd)):Except Int (List Sm×List Vd):=match r with
 |.error x=>.error x|.ok (zs,X)=>.ok (ys++zs,X)
theorem GB{H:Hd}{bP:Bool}{bz:T3}{V:List Vd}{l:List Sm}{ys:List Sm}{k:Nat}(h:k<l.length):Ia ys (kj H bP bz V (l.drop k))=match xW H bP bz V l[k] with
  |.error x=>.error x|.ok (y,W)=>Ia (ys++[y]) (kj H bP bz W (l.drop (k+1))):=by
 rw[ED h];split
 rfl
 split;rename_i h1;rw[h1];rfl;rename_i h1;rw[h1];simp[Ia]
theorem wN{l:List Sm}{k:Nat}(h:k<l.length):(Sm.rows l)[k]?=some l[k].row:=by simp[fY,h]
theorem qJ{l:List Sm}{k:Nat}(h:k<l.length)(h2:k<(Sm.rows l).length):(Sm.rows l)[k]=l[k].row:=by simp[fY]
theorem Aq:∀(l:List Sm)(k:Nat)(h:k<l.length),Sm.cR (l.drop k)=Sm.sz l[k]+Sm.cR (l.drop (k+1)):=by
 intro l k h;rw[List.drop_eq_getElem_cons h];rfl
theorem fj(c:CK)(l:List Sm)(hf:c.fe=0)(hw:pV c)(dH:c.V.length+Sm.cR l<1000000000)
  (hl:∀s∈l,∀d:CK,d.H=c.H->d.sg=c.sg->d.fe=0->pV d->d.V.length+Sm.sz s<1000000000->qH d s):AL c l:=by
 unfold AL;have hz:bX 9 (aT l)=true:=Al;have cC:aD (aT l)=true:=bn;have dW:(aT l).view=aT l:=aO;have cP:aM (aT l)=Sm.rows l:=aE;have hlen:=Sm.dG l;have lJ:∀(ys:List Sm) (y:Sm),ys.length<1000000000->nI 9 136 (bD 9 (Sm.rows ys)) [y.row]=some (bD 9 (Sm.rows (ys++[y]))):=λys y h=>by
  rw[dV (by simp[bL,Sm.az]) (by simp[cT];omega)];simp[fY]
 have Bf:∀(ys:List (List AV)) (y:List AV),y.length=9->ys.length<1000000000->nI 9 136 (bD 9 ys) [y]=some (bD 9 (ys++[y])):=λys y h1 h=>by
  rw[dV (by simp[bL,h1]) (by simp[cT];omega)]
 cases hR:kj c.H c.sg.bP c.sg.bz c.V l with
 |ok x=>
  obtain⟨zs,X⟩:=x;intro af;refine ay (sf:=XK) rfl rfl rfl ?_;generalize aT l=lv at *;simp[-ah,-aa,XK,cC,dW,cP];refine bf DY.eq_1 (λx:Nat×List Sm×List Vd×List AV=>⟨[(0,.val (.ptr 0 0 0 0)),(5,.val (bD 9 (Sm.rows x.2.1))),(8,.val lv),(9,.val (.int .i64 l.length)),(10,.val (.int .i64 x.1))],[x.2.2.2],[(c.aZ x.2.2.1).aU]⟩)
   (λx=>x.1<=l.length/\x.2.1.length=x.1/\Ia x.2.1 (kj c.H c.sg.bP c.sg.bz x.2.2.1 (l.drop x.1))=.ok (zs,X)/\pV (c.aZ x.2.2.1)/\x.2.2.1.length+Sm.cR (l.drop x.1)<1000000000) (λx=>l.length-x.1) (0,[],c.V,[]) rfl ⟨by simp,rfl,by simp[Ia,hR],hw,by simpa using dH⟩ ?_
  rintro⟨k,ys,V,b⟩ ⟨hk,hy,hp,hW,We⟩ ih;simp only at hk hy hp hW We ih;by_cases aX:k<l.length;have mI:=wk k (by omega);rw[Aq l k aX]at We;have hv:=hl l[k] (List.getElem_mem aX) (c.aZ V) rfl rfl hf hW (by show V.length+_<_;omega);unfold qH at hv;have Ct:xW (c.aZ V).H (c.aZ V).sg.bP (c.aZ V).sg.bz (c.aZ V).V l[k]=xW c.H c.sg.bP c.sg.bz V l[k]:=rfl;rw[Ct]at hv;rw[GB aX]at hp;have gE:=wN aX;have m9:=λh2=>qJ aX h2;have fy:=λaf=>cU af (c.aZ V) [];rw[decide_eq_true (show (c.aZ V).fe=0 from hf)]at fy;cases hx:xW c.H c.sg.bP c.sg.bz V l[k] with
  |error a=>rw[hx]at hp;cases hp|ok x=>
   obtain⟨y,W⟩:=x;rw[hx]at hp hv;simp only at hp hv;obtain⟨w1,w2⟩:=Eh l[k] V y W hW.V hx;have ap:=lJ ys y (by omega);have dy:=λb=>ih (k+1,ys++[y],W,b) ⟨by simp only;omega,by simp[hy],hp,xK (W:=W) hw w1 (by omega),by show W.length+Sm.cR (l.drop (k+1))<1000000000;omega⟩ (by simp only;omega);simp only at dy;have oz:(c.aZ V).aZ W=c.aZ W:=rfl;rw[oz]at hv;generalize (c.aZ V).aU=o1 at *;generalize (c.aZ W).aU=o2 at *;generalize bD 9 (Sm.rows (ys++[y]))=R at *;rw[Sm.az l[k]]at hv gE;simp only[Sm.az l[k]]at m9;rw[Sm.az y]at hv ap;generalize l[k]=x at *;simp[-ah,-aa,aY,aX,mI,hz,cP,m9,fy,hv,ap,ag,AV.view];exact dy _
  have eL:k=l.length:=by omega
  have hh:ys=zs/\V=X:=by
   rw[eL,List.drop_length]at hp;simpa [kj,Ia] using hp
  obtain⟨h1,h2⟩:=hh;subst h1 h2;simp[-ah,-aa,aX]
 |error a=>
  intro af;obtain⟨v,bV,h1,W,h2,h3⟩:∃v bV,(bh S).call 0 af 83 [.ptr 0 0 0 0,aT l] [c.aU]=some (v,bV)/\∃W,aD v=true/\bV=[((c.aZ W).fail a).aU]:=by
   refine iT (sf:=XK) rfl rfl rfl ?_;generalize aT l=lv at *;simp[-ah,-aa,XK,cC,dW,cP];refine bf DY.eq_1 (λx:Nat×List (List AV)×List Vd×CK×List AV=>⟨[(0,.val (.ptr 0 0 0 0)),(5,.val (bD 9 x.2.1)),(8,.val lv),(9,.val (.int .i64 l.length)),(10,.val (.int .i64 x.1))],[x.2.2.2.2],[x.2.2.2.1.aU]⟩)
    (λx=>x.1<=l.length/\x.2.1.length=x.1/\(x.2.2.2.1=c.aZ x.2.2.1/\kj c.H c.sg.bP c.sg.bz x.2.2.1 (l.drop x.1)=.error a/\pV (c.aZ x.2.2.1)/\x.2.2.1.length+Sm.cR (l.drop x.1)<1000000000\/x.2.2.2.1=(c.aZ x.2.2.1).fail a))
    (λx=>l.length-x.1) (0,[],c.V,c,[]) rfl ⟨by simp,rfl,.inl ⟨rfl,by simpa using hR,hw,by simpa using dH⟩⟩ ?_
   rintro⟨k,ys,V,d,b⟩ ⟨hk,hy,hp⟩ ih;simp only at hk hy hp ih;by_cases aX:k<l.length;have mI:=wk k (by omega);have gE:=wN aX;have m9:=λh2=>qJ aX h2;rcases hp with⟨hd,hp,hW,We⟩|hd;subst hd;rw[Aq l k aX]at We;have hv:=hl l[k] (List.getElem_mem aX) (c.aZ V) rfl rfl hf hW (by show V.length+_<_;omega);unfold qH at hv;have Ct:xW (c.aZ V).H (c.aZ V).sg.bP (c.aZ V).sg.bz (c.aZ V).V l[k]=xW c.H c.sg.bP c.sg.bz V l[k]:=rfl;rw[Ct]at hv;rw[ED aX]at hp;have fy:=λaf=>cU af (c.aZ V) [];rw[decide_eq_true (show (c.aZ V).fe=0 from hf)]at fy;cases hx:xW c.H c.sg.bP c.sg.bz V l[k] with
   |error a'=>
    rw[hx]at hp hv;simp only at hp hv;cases hp;obtain⟨W,row,⟨rk,rnm,ron,rod,bz,rbd,rel,ra,LZ,rfl,q1,q2,q3⟩,hv⟩:=hv 1;have oz:(c.aZ V).aZ W=c.aZ W:=rfl;rw[oz]at hv;have ap:=Bf ys [.int .i64 rk,.str rnm,.str ron,.int .i64 rod,bz.view,rbd.view,rel.view,.int .i64 ra,.int .i64 LZ] rfl (by omega);have dy:=λb=>ih (k+1,ys++[[.int .i64 rk,.str rnm,.str ron,.int .i64 rod,bz.view,rbd.view,rel.view,.int .i64 ra,.int .i64 LZ]],W,(c.aZ W).fail a,b) ⟨by simp only;omega,by simp[hy],.inr rfl⟩ (by simp only;omega);simp only at dy;generalize (c.aZ V).aU=o1 at *;generalize ((c.aZ W).fail a).aU=o2 at *;generalize bD 9 (ys++[[.int .i64 rk,.str rnm,.str ron,.int .i64 rod,bz.view,rbd.view,rel.view,.int .i64 ra,.int .i64 LZ]])=R at *;rw[Sm.az l[k]]at hv gE;simp only[Sm.az l[k]]at m9;generalize l[k]=x at *;simp[-ah,-aa,aY,aX,mI,hz,cP,m9,fy,hv,ap,q1,q2,q3,ag,AV.view];exact dy _
   |ok x=>
    obtain⟨y,W⟩:=x;rw[hx]at hp hv;simp only at hp hv;obtain⟨w1,w2⟩:=Eh l[k] V y W hW.V hx;have YH:kj c.H c.sg.bP c.sg.bz W (l.drop (k+1))=.error a:=by
     split at hp;rename_i h;cases hp;exact h;cases hp
    have ap:=Bf ys y.row (by rw[Sm.az];rfl) (by omega);have dy:=λb=>ih (k+1,ys++[y.row],W,c.aZ W,b) ⟨by simp only;omega,by simp[hy],.inl ⟨rfl,YH,xK (W:=W) hw w1 (by omega),by show W.length+Sm.cR (l.drop (k+1))<1000000000;omega⟩⟩ (by simp only;omega);simp only at dy;have oz:(c.aZ V).aZ W=c.aZ W:=rfl;rw[oz]at hv;generalize (c.aZ V).aU=o1 at *;generalize (c.aZ W).aU=o2 at *;generalize bD 9 (ys++[y.row])=R at *;rw[Sm.az l[k]]at hv gE;simp only[Sm.az l[k]]at m9;rw[Sm.az y]at hv ap;generalize l[k]=x at *;simp[-ah,-aa,aY,aX,mI,hz,cP,m9,fy,hv,ap,ag,AV.view];exact dy _
   subst hd;have gr:=λaf=>cU af ((c.aZ V).fail a) [];rw[decide_eq_false fV]at gr;simp only[Sm.az l[k]]at m9;rw[Sm.az l[k]]at gE;have hex:∃W,((c.aZ V).fail a).aU=((c.aZ W).fail a).aU:=⟨V,rfl⟩;generalize ((c.aZ V).fail a).aU=o2 at *;generalize l[k]=x at *;simp[-ah,-aa,aY,aX,hz,cP,m9,gr,hex,ag,AV.view];have eL:k=l.length:=(by omega);rcases hp with⟨hd,hp,_⟩|hd;rw[eL,List.drop_length]at hp;simp[kj]at hp;subst hd;have hex:∃W,((c.aZ V).fail a).aU=((c.aZ W).fail a).aU:=⟨V,rfl⟩;generalize ((c.aZ V).fail a).aU=o2 at *;simp[-ah,-aa,aX,hex]
  rw[h3]at h1;exact⟨W,v,h2,h1⟩
theorem oc(s:Sm):∀c:CK,c.fe=0->pV c->c.V.length+Sm.sz s<1000000000->qH c s:=by
 induction s using Sm.yx with
 |_ s sY k8=>
  intro c hf hw dH;have hz:=Sm.jM s;have E8:=E.dG s.es;cases h:cJ c.sg.bP s.k s.es with
  |false=>exact aar c s (by omega) h|true=>
   have y9:∀d:CK,d.H=c.H->d.sg=c.sg->d.fe=0->pV d->d.V.length+Sm.cR s.bd<1000000000->AL d s.bd:=λd _ _ h1 h2 h3=>
    fj d s.bd h1 h2 h3 λx hx e _ _ g1 g2 g3=>sY x hx e g1 g2 g3
   have Ta:∀d:CK,d.H=c.H->d.sg=c.sg->d.fe=0->pV d->d.V.length+Sm.cR s.el<1000000000->AL d s.el:=λd _ _ h1 h2 h3=>
    fj d s.el h1 h2 h3 λx hx e _ _ g1 g2 g3=>k8 x hx e g1 g2 g3
   rcases Nv h with k|k|k|k|k|k|k|k|k;exact LN c s hf hw dH k h;exact LO c s hf hw dH k h;exact LP c s hf hw dH k h;exact LQ c s hf hw dH k h;exact LR c s hf hw dH k h y9 Ta;exact LU c s hf hw dH k h y9;exact LW c s hf hw dH k h;exact LX c s hf hw dH k h;exact LY c s hf hw dH k h
theorem Bg(c:CK)(l:List Sm)(hf:c.fe=0)(hw:pV c)(dH:c.V.length+Sm.cR l<1000000000):AL c l:=
 fj c l hf hw dH λs _ d _ _ h1 h2 h3=>oc s d h1 h2 h3
end K9
namespace K9
open Ax Go bu V7 jG ke
theorem EE(wl af:Nat)(l:List Vd)(st:aj)(hn:l.length<1000000000):(bh S).call wl af 82 [br l] st=some (bD 4 (l.map Vd.row),st):=by
 refine bN (sf:=s82) rfl rfl (by simp[AV.ai]) rfl (by simp) ?_;cases l with
 |nil=>simp[s82,br,jB,Cx]|cons v l=>
  have hv:br (v::l)=.dM 4 ((v::l).map Vd.row):=rfl;have lJ:=dV (sz:=4) (bytes:=40) (r:=[]) (new:=(v::l).map Vd.row) (by simp[bL,Vd.row]) (by simp[cT]at hn ⊢;omega);rw[hv];simp only[List.nil_append]at lJ;have hm:bD 4 ((v::l).map Vd.row)=.iO 4 ((v::l).map Vd.row):=rfl;rw[hm]at lJ ⊢;have AQ:nI 4 40 .mL ((v::l).map Vd.row)=some (.iO 4 ((v::l).map Vd.row)):=by
   simp[nI,bL,Vd.row,cT]at hn ⊢;omega
  generalize (v::l).map Vd.row=R at *;simp[s82,AQ,Cx]
def CK.nL(c:CK)(g:Sg):CK:={ c with sg:=g,V:=g.ps }
theorem aaw{c:CK}{a:Int}:(c.fail a).V=c.V:=by unfold CK.fail;split<;>rfl
theorem Ib(c:CK)(f:Fc)(g:Sg)(hf:c.fe=0)(hw:pV (c.nL g))(dH:g.ps.length+Sm.cR f.body<1000000000):match kj c.H g.bP g.bz g.ps f.body with
  |.ok (ys,W)=>∀af,(bh S).call 0 af 42 [.ptr 0 0 0 0,.agg f.row,.agg g.row] [c.aU]=some (.agg [br W,bD 9 (Sm.rows ys),.int .i64 f.a],[((c.nL g).aZ W).aU])|.error a=>∀af,∃W v,aD v=true/\(bh S).call 0 af 42 [.ptr 0 0 0 0,.agg f.row,.agg g.row] [c.aU]=some (.agg [br W,v,.int .i64 f.a],[(((c.nL g).aZ W).fail a).aU]):=by
 have hB:=Bg (c.nL g) f.body hf hw dH;unfold AL at hB;have Ct:kj (c.nL g).H (c.nL g).sg.bP (c.nL g).sg.bz (c.nL g).V f.body=kj c.H g.bP g.bz g.ps f.body:=rfl;rw[Ct]at hB;have hV:=hw.s.V;have ec:=λwl af st=>EE wl af g.ps st (by exact hV);have h1:∀af bx,aW 0 af (.store 6) [.val (.ptr 0 0 0 5),.val (.agg g.row)] [c.aU] bx=some (.none,[({ c with sg:=g }:CK).aU],bx):=λaf bx=>by
  simp[CK.aU,Sg.row,aQ,AV.ai,AV.ax,ag]
 have h2:∀af bx,aW 0 af (.store 1) [.val (.ptr 0 0 0 11),.val (bD 4 (g.ps.map Vd.row))] [({ c with sg:=g }:CK).aU] bx=some (.none,[(c.nL g).aU],bx):=λaf bx=>by
  simp[CK.aU,CK.nL,aQ,AV.ai,ag]
 generalize ({ c with sg:=g }:CK).aU=o1 at *;have g1:aD (bD 4 (g.ps.map Vd.row))=true:=bY;generalize bD 4 (g.ps.map Vd.row)=mg at *;have g3:=bU g1;have g4:=ck g1;have p1:aD (br g.ps)=true:=dL;have p2:(br g.ps).view=br g.ps:=fC;have q1:aD (aT f.body)=true:=bn;have q2:(aT f.body).view=aT f.body:=aO;simp only[Sg.row]at h1 ⊢;simp only[Fc.row];cases hR:kj c.H g.bP g.bz g.ps f.body with
 |ok x=>
  obtain⟨ys,W⟩:=x;rw[hR]at hB;simp only at hB ⊢;intro af;have ev:=λwl af bx=>Am (wl:=wl) (af:=af) (c:=(c.nL g).aZ W) (r:=[]) (bx:=bx);have hVW:((c.nL g).aZ W).V=W:=rfl;rw[hVW]at ev;generalize ((c.nL g).aZ W).aU=o3 at *;generalize (c.nL g).aU=o2 at *;have y1:aD (bD 9 (Sm.rows ys))=true:=bY;have y2:(bD 9 (Sm.rows ys)).view=aT ys:=rfl;have y3:=bU y1;have y4:=ck y1;generalize bD 9 (Sm.rows ys)=my at *;have w1:aD (br W)=true:=dL;have w2:(br W).view=br W:=fC;generalize br W=fw at *;generalize br g.ps=fg at *;generalize aT f.body=fb at *;refine ay (sf:=s42) rfl rfl rfl ?_;simp[-ah,-aa,s42,ec,h1,h2,hB,ev,p1,p2,q1,q2,w1,y1,ag,AV.view,AV.ax,AV.ai,au,an]
 |error a=>
  rw[hR]at hB;simp only at hB ⊢;intro af;obtain⟨W,v,v1,hB⟩:=hB 1;refine⟨W,v,v1,?_⟩;have ev:=λwl af bx=>Am (wl:=wl) (af:=af) (c:=((c.nL g).aZ W).fail a) (r:=[]) (bx:=bx);have hVW:(((c.nL g).aZ W).fail a).V=W:=aaw;rw[hVW]at ev;generalize (((c.nL g).aZ W).fail a).aU=o3 at *;generalize (c.nL g).aU=o2 at *;have v3:=bU v1;have v4:=ck v1;have v5:aD v.view=true:=by rw[jY];exact v1
  have w1:aD (br W)=true:=dL;have w2:(br W).view=br W:=fC;generalize br W=fw at *;generalize br g.ps=fg at *;generalize aT f.body=fb at *;refine ay (sf:=s42) rfl rfl rfl ?_;simp[-ah,-aa,s42,ec,h1,h2,hB,ev,p1,p2,q1,q2,w1,v1,ag,AV.view,AV.ax,AV.ai,au,an]
open N7 U7 in
theorem Ar(p:Pg):iK (cj (iY p).aS)=cx p:=by
 rw[og];simp[iK,cx,Fx]
def jS(H:Hd)(m:Int):List AV:=[aA 2 (H.bK.map dx),br H.globals,aA 6 (H.sigs.map Sg.row),.int .i64 m]
theorem wO(rs:List (List UInt8))(l:List PD):dF rs l=(kS rs l).map Vd.row:=by
 simp only[dF,kS,List.map_map];exact List.map_congr_left λq _=>rfl
open N7 U7 in
def fW(p:Pg):Int:=tM (dN (iY p).funcs)
open N7 U7 in
theorem J4(p:Pg):wH (iY p)=.agg (jS (aG p) (fW p)):=by
 unfold wH jS fW;have h1:jC (iK (cj (iY p).aS)) (cj (iY p).aS)=(aG p).bK.map dx:=by
  rw[Ar,og];simp only[jC,aG,List.map_map];exact List.map_congr_left λr _=>by simp only[Function.comp,Bc,Fx,oe,dx,wO];rfl
 have h2:dF (iK (cj (iY p).aS)) (iJ (iY p).globals)=(aG p).globals.map Vd.row:=by
  rw[Ar,Et,wO];rfl
 have h3:fO (iK (cj (iY p).aS)) (dN (iY p).funcs)=(aG p).sigs.map Sg.row:=by
  rw[Ar,mZ];simp only[fO,aG,List.map_map];refine List.map_congr_left λf _=>?_;simp only[Function.comp,iL,Cs,oe,Sg.row,wD,U7.oJ,wO];obtain⟨n,ps,bP,on,od,body,a⟩:=f;cases bP<;>rfl
 rw[h1,h2,h3]
 rfl
theorem J5(p:Pg):(aG p).ok:=by
 refine⟨by simp[aG,cx],?_,?_,?_⟩;intro s hs f hf;simp only[aG]at hs;obtain⟨r,_,rfl⟩:=List.mem_map.1 hs;simp only[kS]at hf;obtain⟨q,_,rfl⟩:=List.mem_map.1 hf;exact mY _ _ _;intro f hf;simp only[aG,kS]at hf;obtain⟨q,_,rfl⟩:=List.mem_map.1 hf;exact mY _ _ _;intro s hs;simp only[aG]at hs;obtain⟨r,_,rfl⟩:=List.mem_map.1 hs;refine⟨?_,λf hf=>?_⟩;simp only[wD];split;exact mY _ _ _;exact SA;simp only[wD,kS]at hf;obtain⟨q,_,rfl⟩:=List.mem_map.1 hf;exact mY _ _ _
abbrev Z5:AV:=.agg [.U,.U,.U,.int .i64 0,.U]
def uQ(H:Hd)(m:Int)(r:Except Int (List Bd)):AV:=match r with
 |.error a=>.fm [Z5,.agg [.int .i64 3,.int .i64 a]]|.ok l=>.fm [.agg (jS H m++[aA 3 (l.map Bd.row)]),.agg [.int .i64 0,.int .i64 0]]
open N7 U7 in
def mJ(p:Pg):AV:=match iS (iY p) with
 |some a=>.fm [Z5,.agg [.int .i64 3,.int .i64 a]]|none=>uQ (aG p) (fW p) (qk (aG p) (aG p).sigs p.funcs)
def Ic(bs:List Bd)(r:Except Int (List Bd)):Except Int (List Bd):=match r with
 |.error x=>.error x|.ok zs=>.ok (bs++zs)
theorem J6{H:Hd}{ss:List Sg}{fs:List Fc}{bs:List Bd}{k:Nat}(h:k<ss.length)(h2:k<fs.length):Ic bs (qk H (ss.drop k) (fs.drop k))=match kj H ss[k].bP ss[k].bz ss[k].ps fs[k].body with
  |.error x=>.error x|.ok (c,W)=>Ic (bs++[⟨W,c,fs[k].a⟩]) (qk H (ss.drop (k+1)) (fs.drop (k+1))):=by
 rw[List.drop_eq_getElem_cons h,List.drop_eq_getElem_cons h2];conv=>lhs;arg 2;unfold qk
 cases kj H ss[k].bP ss[k].bz ss[k].ps fs[k].body with
 |error x=>rfl|ok x=>
  obtain⟨c,W⟩:=x;simp only;cases qk H (List.drop (k+1) ss) (List.drop (k+1) fs) with
  |error x=>rfl|ok x=>simp[Ic]
def CK.Tb(c:CK)(w:AV):dz:=.rows 0 14 [[aA 2 (c.H.bK.map dx),br c.H.globals,aA 6 (c.H.sigs.map Sg.row),.int .i64 c.main,w,.str c.sg.nm,br c.sg.ps,.bool c.sg.bP,.int .i64 c.sg.bz.b,.int .i64 c.sg.bz.r,.int .i64 c.sg.bz.d,bD 4 (c.V.map Vd.row),.int .i64 c.fe,.int .i64 c.fa]]
def CK.aax(c:CK)(R:List (List UInt8)):CK:={ c with H:={ c.H with rs:=R } }
theorem Wf{af:Nat}{c:CK}{bx:bF}:aW 0 af (.load false 1 true) [.val (.ptr 0 0 0 4)] [c.aU] bx=some (.val (bD 1 (ga c.H.rs)),[c.Tb (bD 1 (ga c.H.rs)).di],bx):=by
 simp only[CK.aU,CK.Tb];generalize ga c.H.rs=rows;cases rows with
 |nil=>simp[aW,bD,cut,dA,cu,aQ,AV.di,AV.ax,AV.ai,ag,bM]|cons a l=>simp[aW,bD,cut,dA,cu,aQ,AV.di,AV.ax,AV.ai,ag,bM]
theorem aay{af:Nat}{c:CK}{w:AV}{R:List (List UInt8)}{bx:bF}:aW 0 af (.store 1) [.val (.ptr 0 0 0 4),.val (bD 1 (ga R))] [c.Tb w] bx=some (.none,[(c.aax R).aU],bx):=by
 simp[CK.aU,CK.Tb,CK.aax,aQ,AV.ai,ag]
theorem L0{wl af:Nat}{c:CK}{r:aj}{bx:bF}:aW wl af (.load true 2 false) [.val (.ptr 0 0 0 12)] (c.aU::r) bx=some (.val (.agg [.int .i64 c.fe,.int .i64 c.fa]),c.aU::r,bx):=by
 simp[CK.aU,cut,AV.view]
def sg0:Sg:=⟨[],[],false,T0⟩
def Nw(H:Hd)(m:Int)(R:List (List UInt8)):CK:=⟨{ H with rs:=R },m,sg0,[],0,0⟩
theorem Wg{l:List Rc}{k:Nat}(h:k<l.length):(l.map Rc.row)[k]?=some [.str l[k].name,aA 4 (l[k].cQ.map PD.cells),.int .i64 l[k].a]:=by simp[h,Rc.row]
theorem aaz{l:List Fc}{k:Nat}(h:k<l.length):(l.map Fc.row)[k]?=some [.str l[k].name,aA 4 (l[k].params.map PD.cells),.bool l[k].bP,.str l[k].on,.int .i64 l[k].od,aT l[k].body,.int .i64 l[k].a]:=by simp[h,Fc.row]
theorem O3(H:Hd)(m:Int)(r:Except Int (List Bd)):(uQ H m r).ax=true:=by
 cases r<;>simp[uQ,jS,AV.ax,AV.ai]
theorem B3(p:Pg):(mJ p).ax=true:=by
 unfold mJ;split;simp[AV.ax,AV.ai];exact O3 _ _ _
open N7 U7 in
theorem wP(wl af:Nat)(p:Pg)(st:aj)(hg:(iY p).ok)(pg:GD.sm (iY p))(dH:∀f∈p.funcs,f.params.length+Sm.cR f.body<1000000000) :
  (bh S).call wl af 20 [.agg p.row] st=some (mJ p,st):=by
 have em:∀wl af st,(bh S).call wl af 41 [.agg p.row] st=some (y7 (iY p),st):=λwl af st=>xH wl af (iY p) st hg pg;refine bN (sf:=s20) rfl rfl (by simp[Pg.row,AV.ai,AV.ax]) rfl (B3 p) ?_;unfold mJ;unfold y7 at em;cases hF:iS (iY p) with
 |some a=>
  rw[hF]at em;simp only[qm,fE,fX,Pg.row]at em ⊢;simp[-ah,-aa,s20,em,ag,AV.view,au,an]
 |none=>
  rw[hF,J4]at em;simp only[fE,fX,Pg.row,jS]at em ⊢;have Dj:(Nw (aG p) (fW p) []).aU=.rows 0 14 [[aA 2 ((aG p).bK.map dx),br (aG p).globals,aA 6 ((aG p).sigs.map Sg.row),.int .i64 (fW p),.U,.str [],.U,.bool false,.int .i64 0,.int .i64 0,.int .i64 0,.U,.int .i64 0,.int .i64 0]]:=by
   simp[CK.aU,Nw,sg0,ga,jB,br]
  have vm:∀wl af bx,aW wl af (.box 14) [.val (.agg [aA 2 ((aG p).bK.map dx),br (aG p).globals,aA 6 ((aG p).sigs.map Sg.row),.int .i64 (fW p),.U,.str [],.U,.bool false,.int .i64 0,.int .i64 0,.int .i64 0,.U,.int .i64 0,.int .i64 0])] [] bx =
    some (.val (.ptr 0 0 0 0),[(Nw (aG p) (fW p) []).aU],bx):=λwl af bx=>by rw[Dj];simp
  have t1:aD (aA 2 ((aG p).bK.map dx))=true:=aL;have t2:(aA 2 ((aG p).bK.map dx)).view=aA 2 ((aG p).bK.map dx):=aJ;have t3:aD (aA 6 ((aG p).sigs.map Sg.row))=true:=aL;have t4:(aA 6 ((aG p).sigs.map Sg.row)).view=aA 6 ((aG p).sigs.map Sg.row):=aJ;have t5:bX 6 (aA 6 ((aG p).sigs.map Sg.row))=true:=gf (by simp[bL,Sg.row]);have t6:aM (aA 6 ((aG p).sigs.map Sg.row))=(aG p).sigs.map Sg.row:=aE;have r1:aD (aA 3 (p.aS.map Rc.row))=true:=aL;have r2:(aA 3 (p.aS.map Rc.row)).view=aA 3 (p.aS.map Rc.row):=aJ;have r3:bX 3 (aA 3 (p.aS.map Rc.row))=true:=gf (by simp[bL,Rc.row]);have r4:aM (aA 3 (p.aS.map Rc.row))=p.aS.map Rc.row:=aE;have f1:aD (aA 7 (p.funcs.map Fc.row))=true:=aL;have f2:(aA 7 (p.funcs.map Fc.row)).view=aA 7 (p.funcs.map Fc.row):=aJ;have f3:bX 7 (aA 7 (p.funcs.map Fc.row))=true:=gf (by simp[bL,Fc.row]);have f4:aM (aA 7 (p.funcs.map Fc.row))=p.funcs.map Fc.row:=aE;have g1:aD (aA 4 (p.globals.map PD.cells))=true:=aL;have g2:(aA 4 (p.globals.map PD.cells)).view=aA 4 (p.globals.map PD.cells):=aJ;generalize hHS:aA 2 ((aG p).bK.map dx)=HS at *;generalize hHG:aA 6 ((aG p).sigs.map Sg.row)=HG at *;generalize aA 3 (p.aS.map Rc.row)=PR at *;generalize aA 7 (p.funcs.map Fc.row)=PF at *;generalize aA 4 (p.globals.map PD.cells)=PG at *;simp[-ah,-aa,-MW,s20,em,vm,t1,t2,t3,t4,r1,r2,r4,f1,f2,g1,g2,ag,AV.view];have Qb:(cx p).length=p.aS.length:=by simp[cx]
  have OW:p.aS.length<1000000000:=by have:=pg.aS;rw[og,List.length_map]at this;exact this
  have Gf:p.funcs.length<1000000000:=by have:=pg.funcs;rw[mZ,List.length_map]at this;exact this
  have hHr:(Nw (aG p) (fW p) (cx p)).H=aG p:=rfl;generalize hGL:br (aG p).globals=GL at *;have gl1:aD GL=true:=by rw[<-hGL];exact dL
  have gl2:GL.view=GL:=by rw[<-hGL];exact fC
  refine bf Rd.eq_1 (λx:Nat×List AV=>⟨[(1,.fp 0 0),(2,.fp 1 0),(3,.fp 2 0),(4,.fp 3 0),(6,.val (.ptr 0 0 0 0)),(26,.val PR),(27,.val (.int .i64 p.aS.length)),(28,.val (.int .i64 x.1))],
   [[PR,PG,PF],[.U,.U,.U,.int .i64 0,.U],[.int .i64 0,.int .i64 0],[HS,GL,HG,.int .i64 (fW p)],[.int .i64 0,.int .i64 0],x.2,[],[]],[(Nw (aG p) (fW p) ((cx p).take x.1)).aU]⟩)
   (λx=>x.1<=p.aS.length) (λx=>p.aS.length-x.1) (0,[]) (by simp) (by simp) ?_
  rintro⟨k,b⟩ hk ih;simp only at hk ih;by_cases aX:k<p.aS.length;have mI:=wk k (by omega);have gR:=Wg aX;have gR':∀h:k<(p.aS.map Rc.row).length,(p.aS.map Rc.row)[k]=[.str p.aS[k].name,aA 4 (p.aS[k].cQ.map PD.cells),.int .i64 p.aS[k].a]:=λh=>by simp[Rc.row]
  have lJ:=dV (sz:=1) (bytes:=16) (r:=ga ((cx p).take k)) (new:=[[.str p.aS[k].name]]) (by simp[bL]) (by simp[cT,ga];omega);have V1:ga ((cx p).take k)++[[.str p.aS[k].name]]=ga ((cx p).take (k+1)):=by
   rw[List.take_succ_eq_append_getElem (by rw[Qb];exact aX)];simp[ga,cx]
  rw[V1]at lJ;have et:=λaf bx=>Wf (af:=af) (c:=Nw (aG p) (fW p) ((cx p).take k)) (bx:=bx);have ep:=λaf bx=>aay (af:=af) (c:=Nw (aG p) (fW p) ((cx p).take k)) (w:=(bD 1 (ga ((cx p).take k))).di) (R:=(cx p).take (k+1)) (bx:=bx);have KG:(Nw (aG p) (fW p) ((cx p).take k)).aax ((cx p).take (k+1))=Nw (aG p) (fW p) ((cx p).take (k+1)):=rfl;rw[KG]at ep;have TW:(Nw (aG p) (fW p) ((cx p).take k)).H.rs=(cx p).take k:=rfl;rw[TW]at et;have dy:=λb=>ih (k+1,b) (by simp only;omega) (by simp only;omega);simp only at dy;generalize (Nw (aG p) (fW p) ((cx p).take (k+1))).aU=o1 at *;generalize (Nw (aG p) (fW p) ((cx p).take k)).Tb (bD 1 (ga ((cx p).take k))).di=o2 at *;generalize (Nw (aG p) (fW p) ((cx p).take k)).aU=o3 at *;generalize bD 1 (ga ((cx p).take (k+1)))=m1 at *;generalize bD 1 (ga ((cx p).take k))=m2 at *;generalize p.aS[k]=rc at *;simp[-ah,-aa,aY,aX,mI,r3,r4,gR',et,ep,lJ,ag,AV.view,au,an];exact dy _;have eL:k=p.aS.length:=by omega
  subst eL;have D6:(cx p).take p.aS.length=cx p:=by rw[<-Qb,List.take_length]
  rw[D6];simp[-ah,-aa,t1,t2,t3,t4,f1,f2,f4,gl1,gl2,ag,AV.view];have cC:(aG p).sigs.length=p.funcs.length:=by simp[aG]
  have Wh:∀(d:CK) (g:Sg),d.H=aG p->g∈(aG p).sigs->pV (d.nL g):=λd g hd x9=>by
   have Gc:=J5 p;have Kr:(aG p).globals.length<1000000000:=(by have:=pg.globals;rw[Et]at this;simpa [aG,kS] using this);have hF:∀s∈(aG p).bK,s.2.length<1000000000:=λs hs=>by
    obtain⟨r,hr,rfl⟩:=List.mem_map.1 hs;have:=pg.cQ (Fx r) (by rw[og];exact List.mem_map_of_mem hr);simpa [Fx,oe,kS] using this
   have hP:∀s∈(aG p).sigs,s.ps.length<1000000000:=λs hs=>by
    obtain⟨r,hr,rfl⟩:=List.mem_map.1 hs;have:=pg.params (Cs r) (by rw[mZ];exact List.mem_map_of_mem hr);simpa [Cs,oe,wD,kS] using this
   refine⟨⟨hP g x9,?_,?_,?_,?_,?_⟩,?_,?_⟩;show d.H.globals.length<_;rw[hd];exact Kr;show d.H.sigs.length<_;rw[hd,cC];exact Gf;show d.H.rs.length<_;rw[hd];show (cx p).length<_;rw[Qb];exact OW;show ∀s∈d.H.bK,_;rw[hd];exact hF;show ∀s∈d.H.sigs,_;rw[hd];exact hP;show d.H.ok;rw[hd];exact Gc;show ∀f∈g.ps,WT d.H.rs.length f.ty;rw[hd];exact(Gc.sigs g x9).2
  refine bf Re.eq_1 (λx:Nat×List Bd×CK×List AV=>⟨[(2,.fp 1 0),(3,.fp 2 0),(4,.fp 3 0),(6,.val (.ptr 0 0 0 0)),(9,.fp 6 0),(47,.val PF),(48,.val (.int .i64 p.funcs.length)),(49,.val (.int .i64 x.1))],
   [[PR,PG,PF],[.U,.U,.U,.int .i64 0,.U],[.int .i64 0,.int .i64 0],[HS,GL,HG,.int .i64 (fW p)],[.int .i64 0,.int .i64 0],b,[HS,GL,HG,.int .i64 (fW p),bD 3 (x.2.1.map Bd.row)],x.2.2.2],[x.2.2.1.aU]⟩)
   (λx=>x.1<=p.funcs.length/\x.2.1.length=x.1/\x.2.2.1.H=aG p/\x.2.2.1.fe=0/\Ic x.2.1 (qk (aG p) ((aG p).sigs.drop x.1) (p.funcs.drop x.1))=qk (aG p) (aG p).sigs p.funcs)
   (λx=>p.funcs.length-x.1) (0,[],Nw (aG p) (fW p) (cx p),[]) (by simp[jB]) ⟨by simp,rfl,rfl,rfl,by simp[Ic];split<;>rename_i h<;>exact h.symm⟩ ?_
  rintro⟨k,bs,d,b7⟩ ⟨hk,Yr,hd,hdf,hp⟩ ih;simp only at hk Yr hd hdf hp ih;by_cases qd:k<p.funcs.length;have nk:k<(aG p).sigs.length:=by omega
  have mI:=wk k (by omega);have gF:=aaz qd;have gF':∀h:k<(p.funcs.map Fc.row).length,(p.funcs.map Fc.row)[k]=[.str p.funcs[k].name,aA 4 (p.funcs[k].params.map PD.cells),.bool p.funcs[k].bP,.str p.funcs[k].on,.int .i64 p.funcs[k].od,aT p.funcs[k].body,.int .i64 p.funcs[k].a]:=λh=>by simp[Fc.row]
  have gS:((aG p).sigs.map Sg.row)[k]?=some [.str (aG p).sigs[k].nm,br (aG p).sigs[k].ps,.bool (aG p).sigs[k].bP,.int .i64 (aG p).sigs[k].bz.b,.int .i64 (aG p).sigs[k].bz.r,.int .i64 (aG p).sigs[k].bz.d]:=by simp[nk,Sg.row]
  have yz:∀h:k<((aG p).sigs.map Sg.row).length,((aG p).sigs.map Sg.row)[k]=[.str (aG p).sigs[k].nm,br (aG p).sigs[k].ps,.bool (aG p).sigs[k].bP,.int .i64 (aG p).sigs[k].bz.b,.int .i64 (aG p).sigs[k].bz.r,.int .i64 (aG p).sigs[k].bz.d]:=λh=>by simp[Sg.row]
  rw[J6 nk qd]at hp;have QA:(aG p).sigs[k].ps.length=p.funcs[k].params.length:=by simp[aG,wD,kS]
  have hB:=Ib d p.funcs[k] (aG p).sigs[k] hdf (Wh d _ hd (List.getElem_mem nk)) (by rw[QA];exact dH _ (List.getElem_mem qd));rw[hd]at hB;have lJ:∀cs:List AV,cs.length=3->nI 3 56 (bD 3 (bs.map Bd.row)) [cs]=some (bD 3 (bs.map Bd.row++[cs])):=λcs hc=>dV (by simp[bL,hc]) (by simp[cT];omega);have ps1:aD (aA 4 (p.funcs[k].params.map PD.cells))=true:=aL;have ps2:(aA 4 (p.funcs[k].params.map PD.cells)).view=aA 4 (p.funcs[k].params.map PD.cells):=aJ;have bd1:aD (aT p.funcs[k].body)=true:=bn;have bd2:(aT p.funcs[k].body).view=aT p.funcs[k].body:=aO;have sp1:aD (br (aG p).sigs[k].ps)=true:=dL;have sp2:(br (aG p).sigs[k].ps).view=br (aG p).sigs[k].ps:=fC;simp only[Fc.row,Sg.row]at hB;generalize O4:(aG p).sigs.map Sg.row=RS at *;generalize hrF:p.funcs.map Fc.row=RF at *;have EF:k<RS.length:=by rw[<-O4,List.length_map];exact nk
  have L1:k<RF.length:=by rw[<-hrF,List.length_map];exact qd
  have EG:=yz EF;have Tc:=gF' L1;clear yz gF';cases hR:kj (aG p) (aG p).sigs[k].bP (aG p).sigs[k].bz (aG p).sigs[k].ps p.funcs[k].body with
  |error a=>
   rw[hR]at hp hB;simp only at hp hB;obtain⟨W,v,v1,hB⟩:=hB 0;have xZ:(((d.nL (aG p).sigs[k]).aZ W).fail a).fe=3/\(((d.nL (aG p).sigs[k]).aZ W).fail a).fa=a:=by
    have:((d.nL (aG p).sigs[k]).aZ W).fe=0:=hdf;unfold CK.fail;rw[if_pos this];exact⟨rfl,rfl⟩
   have fy:=λaf=>cU af (((d.nL (aG p).sigs[k]).aZ W).fail a) [];rw[decide_eq_false fV]at fy;have hcf:∀wl af bx,aW wl af (.load true 2 false) [.val (.ptr 0 0 0 12)] [(((d.nL (aG p).sigs[k]).aZ W).fail a).aU] bx=some (.val (.agg [.int .i64 3,.int .i64 a]),[(((d.nL (aG p).sigs[k]).aZ W).fail a).aU],bx):=λwl af bx=>by
    rw[L0,xZ.1,xZ.2]
   rw[<-hp];simp only[uQ];generalize (((d.nL (aG p).sigs[k]).aZ W).fail a).aU=o1 at *;have w1:aD (br W)=true:=dL;have w2:(br W).view=br W:=fC;generalize br W=FW at *;have ap:=lJ [FW,v.view,.int .i64 p.funcs[k].a] rfl;have v2:=bU v1;have v3:=ck v1;have v4:aD v.view=true:=(by rw[jY];exact v1);generalize aA 4 (p.funcs[k].params.map PD.cells)=PP at *;generalize aT p.funcs[k].body=PB at *;generalize br (aG p).sigs[k].ps=SP at *;generalize bD 3 (bs.map Bd.row)=BL at *;generalize p.funcs[k]=fk at *;generalize (aG p).sigs[k]=gk at *;simp[-ah,-aa,aY,qd,f3,f4,Tc,EG,EF,L1,t4,t5,t6,ps1,ps2,bd1,bd2,sp2,hB,w1,w2,v4,ap,fy,hcf,ag,AV.view,AV.ax,AV.ai,au,an]
  |ok x=>
   obtain⟨c,W⟩:=x;rw[hR]at hp hB;simp only at hp hB;have dy:=λb7=>ih (k+1,bs++[⟨W,c,p.funcs[k].a⟩],(d.nL (aG p).sigs[k]).aZ W,b7) ⟨by simp only;omega,by simp[Yr],hd,hdf,hp⟩ (by simp only;omega);simp only[List.map_append,List.map_cons,List.map_nil,Bd.row]at dy;have fy:=λaf=>cU af ((d.nL (aG p).sigs[k]).aZ W) [];rw[decide_eq_true (show ((d.nL (aG p).sigs[k]).aZ W).fe=0 from hdf)]at fy;generalize ((d.nL (aG p).sigs[k]).aZ W).aU=o1 at *;have w1:aD (br W)=true:=dL;have w2:(br W).view=br W:=fC;generalize br W=FW at *;have ap:=lJ [FW,aT c,.int .i64 p.funcs[k].a] rfl;have c1:aD (bD 9 (Sm.rows c))=true:=bY;have c2:(bD 9 (Sm.rows c)).view=aT c:=rfl;have c3:=bU c1;have c4:=ck c1;have c5:aD (aT c)=true:=bn;generalize bD 9 (Sm.rows c)=MC at *;generalize aT c=SC at *;generalize aA 4 (p.funcs[k].params.map PD.cells)=PP at *;generalize aT p.funcs[k].body=PB at *;generalize br (aG p).sigs[k].ps=SP at *;have n1:aD (bD 3 (bs.map Bd.row++[[FW,SC,.int .i64 p.funcs[k].a]]))=true:=bY;generalize bD 3 (bs.map Bd.row++[[FW,SC,.int .i64 p.funcs[k].a]])=BN at *;generalize bD 3 (bs.map Bd.row)=BL at *;generalize p.funcs[k]=fk at *;generalize (aG p).sigs[k]=gk at *;simp[-ah,-aa,aY,qd,mI,f3,f4,Tc,EG,EF,L1,t4,t5,t6,ps1,ps2,bd1,bd2,sp2,hB,w1,w2,c2,c5,n1,ap,fy,ag,AV.view,AV.ax,AV.ai,au,an];exact dy _
  have eL:k=p.funcs.length:=by omega
  have hR:qk (aG p) (aG p).sigs p.funcs=.ok bs:=by
   rw[<-hp,eL,List.drop_length,<-cC,List.drop_length];simp[qk,Ic]
  rw[hR];have n1:aD (bD 3 (bs.map Bd.row))=true:=bY;have n2:(bD 3 (bs.map Bd.row)).view=aA 3 (bs.map Bd.row):=rfl;have n3:=bU n1;have n4:aD (aA 3 (bs.map Bd.row))=true:=aL;simp only[uQ,jS];rw[hHS,hHG,hGL];generalize bD 3 (bs.map Bd.row)=BL at *;generalize aA 3 (bs.map Bd.row)=BV at *;simp[-ah,-aa,qd,t1,t2,t3,t4,gl1,gl2,n2,n4,ag,AV.view]
end K9
