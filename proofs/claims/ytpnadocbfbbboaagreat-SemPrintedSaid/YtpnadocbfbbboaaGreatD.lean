/- Part of a proof. -/
import Derived.Test.YtpnadocbfbbboaaGreatC
import Derived.Test.YtpnadocbfbbboaaGreatP
import Derived.Test.YtpnadocbfbbboaaGreatN

set_option maxRecDepth 100000
set_option maxHeartbeats 8000000
namespace K9
open Ax Go bX V7 lf mG
theorem kP(J:Nat)(c:CK)(s:Sm)(_hn:s.es.length<1000000000):(aT S).call 0 J 118 [.ptr 0 0 0 0,.agg s.aG] [c.bC]=some (.bool (eu c.sg.ct s.k s.es),[c.bC]):=by
 have dj:=Sm.aB s;have hz:dg 11 (bf s.es)=true:=mY;have dw:aR (bf s.es)=true:=bP;have gn:(bf s.es).aa=bf s.es:=bS;have eM:bg (bf s.es)=E.rows s.es:=aZ;have m0:((s.es.length:Int)=0)=(s.es.length=0):=by simp
 have m1:((s.es.length:Int)=1)=(s.es.length=1):=by apply propext;omega
 have m2:((s.es.length:Int)=2)=(s.es.length=2):=by apply propext;omega
 rw[dj];generalize s.k=k at *;unfold eu;by_cases h1:k=1;subst h1;refine an (sf:=oL) rfl rfl rfl ?_;generalize bf s.es=kv at *;simp[-ax,-ag,oL,dw,gn,eM,AV.aa];by_cases h4:k=4;subst h4;refine an (sf:=oL) rfl rfl rfl ?_;simp only[if_neg h1,if_true];match mO:s.es,eM,m2 with
 |[e,e2],eM,m2=>
  rw[mO]at hz dw gn;simp only[E.rows]at eM;rw[E.aB e,E.aB e2]at eM;generalize bf [e,e2]=kv at *;by_cases q:e.k=5;simp[-ax,-ag,oL,bM,hz,dw,gn,eM,q,AV.aa];simp[-ax,-ag,oL,bM,hz,dw,gn,eM,q,AV.aa]
 |[],eM,m2=>
  rw[mO]at hz dw gn;generalize bf []=kv at *;simp[-ax,-ag,oL,dw,gn,eM,E.rows,AV.aa]
 |[e],eM,m2=>
  rw[mO]at hz dw gn;simp only[E.rows]at eM;generalize bf [e]=kv at *;simp[-ax,-ag,oL,dw,gn,eM,AV.aa]
 |e::e2::e3::l,eM,m2=>
  rw[mO]at hz dw gn;have hl3:¬((E.rows (e::e2::e3::l)).length:Int)=2:=by simp;omega
  generalize bf (e::e2::e3::l)=kv at *;generalize E.rows (e::e2::e3::l)=rws at *;simp[-ax,-ag,oL,dw,gn,eM,hl3,AV.aa]
 by_cases h7:k=7;subst h7;refine an (sf:=oL) rfl rfl rfl ?_;simp only[if_neg h1,if_neg h4,if_true];generalize bf s.es=kv at *;have hc:=λwl J r bx=>ah4 (wl:=wl) (J:=J) (c:=c) (r:=r) (bx:=bx);cases hh:c.sg.ct with
 |false=>
  rw[hh]at hc;by_cases q1:s.es.length=1;simp[-ax,-ag,oL,dw,gn,eM,q1,hc,AV.aa];by_cases q0:s.es.length=0;simp[-ax,-ag,oL,dw,gn,eM,q0,hc,AV.aa];simp[-ax,-ag,oL,dw,gn,eM,m1,q0,q1,AV.aa]
 |true=>
  rw[hh]at hc;by_cases q1:s.es.length=1;simp[-ax,-ag,oL,dw,gn,eM,q1,hc,AV.aa];by_cases q0:s.es.length=0;simp[-ax,-ag,oL,dw,gn,eM,q0,hc,AV.aa];simp[-ax,-ag,oL,dw,gn,eM,m1,q0,q1,AV.aa]
 by_cases h9:k=9;subst h9;refine an (sf:=oL) rfl rfl rfl ?_;simp only[if_neg h1,if_neg h4,if_neg h7,if_true];match mO:s.es,eM,m2 with
 |[e],eM,m2=>
  rw[mO]at hz dw gn;simp only[E.rows]at eM;rw[E.aB e]at eM;generalize bf [e]=kv at *;simp[-ax,-ag,oL,bM,hz,dw,gn,eM,AV.aa]
 |[],eM,m2=>
  rw[mO]at hz dw gn;generalize bf []=kv at *;simp[-ax,-ag,oL,dw,gn,eM,E.rows,AV.aa]
 |e::e2::l,eM,m2=>
  rw[mO]at hz dw gn;have hl3:¬((E.rows (e::e2::l)).length:Int)=1:=by simp;omega
  generalize bf (e::e2::l)=kv at *;generalize E.rows (e::e2::l)=rws at *;simp[-ax,-ag,oL,dw,gn,eM,hl3,AV.aa]
 refine an (sf:=oL) rfl rfl rfl ?_;simp only[if_neg h1,if_neg h4,if_neg h7,if_neg h9];generalize bf s.es=kv at *;by_cases h2:k=2;subst h2;simp[-ax,-ag,oL,dw,gn,eM,m1,AV.aa];by_cases h3:k=3;subst h3;simp[-ax,-ag,oL,dw,gn,eM,m1,AV.aa];by_cases h5:k=5;subst h5;simp[-ax,-ag,oL,dw,gn,eM,m1,AV.aa];by_cases h6:k=6;subst h6;simp[-ax,-ag,oL,dw,gn,eM,m1,AV.aa];by_cases h8:k=8;subst h8;simp[-ax,-ag,oL,dw,gn,eM,m1,AV.aa];simp[-ax,-ag,oL,h1,h2,h3,h4,h5,h6,h7,h8,h9,dw,AV.aa]
def ady(o:Option (Int×List Vd))(v:AV):Prop:=∃z:Int,v=.fF [.int .i64 z,.bool o.isSome]/\∀r W,o=some (r,W)->z=r
def mZ(c:CK)(o:Option (Int×List Vd)):CK:=match o with|some (_,W)=>{ c with V:=W } | none=>c
theorem YY(J:Nat)(c:CK)(s:Sm)(t:T3)(hs:Ce c)(hf:eu c.sg.ct s.k s.es=true) :
  ∃v,ady (mH c.H c.sg.res c.V s.k s.nm s.es t) v/\(aT S).call 0 J 122 [.ptr 0 0 0 0,.agg s.aG,.agg [.int .i64 t.b,.int .i64 t.r,.int .i64 t.d]] [c.bC]=some (v,[(mZ c (mH c.H c.sg.res c.V s.k s.nm s.es t)).bC]):=by
 have eD:=λJ=>NB J c s.nm t hs;have eV:=λJ=>Cf J c s.nm [] hs;have eN:=λwl J st=>Bk wl J st;have eT:=λwl J st=>EU wl J st;have dj:=Sm.aB s;have hz:dg 11 (bf s.es)=true:=mY;have dw:aR (bf s.es)=true:=bP;have gn:(bf s.es).aa=bf s.es:=bS;have eM:bg (bf s.es)=E.rows s.es:=aZ;have one:∀j,s.k=j->(j=2\/j=3\/j=5\/j=6\/j=8)->∃x,s.es=[x]:=λj hj h=>by
  have hlen:s.es.length=1:=by
   rw[hj]at hf;rcases h with h|h|h|h|h<;>subst h<;>simpa [eu] using hf
  match hh:s.es,hlen with
  |[x],_=>exact⟨x,rfl⟩
 have hV:=hs.V;rw[dj];unfold mH;by_cases h1:s.k=1;rw[if_pos h1,h1];cases hl:js s.nm 0 c.V with
 |some x=>
  refine⟨.fF [.int .i64 0,.bool false],⟨0,rfl,λ_ _ h=>by cases h⟩,?_⟩;rw[hl]at eD;simp only[EV]at eD;refine an (sf:=nA) rfl rfl rfl ?_;generalize bf s.es=kv at *;simp[-ax,-ag,nA,eD,dw,mZ,AV.aa]
 |none=>
  refine⟨.fF [.int .i64 c.V.length,.bool true],⟨c.V.length,rfl,λ_ _ h=>by cases h;rfl⟩,?_⟩;rw[hl]at eD;simp only[EV]at eD;simp only[mZ];refine an (sf:=nA) rfl rfl rfl ?_;generalize bf s.es=kv at *;generalize ({ c with V:=c.V++[(⟨s.nm,t⟩:Vd)] }:CK).bC=ob2 at *;simp[-ax,-ag,nA,eD,dw,AV.aa]
 rw[if_neg h1];by_cases h2:s.k=2;obtain⟨x,hx⟩:=one 2 h2 (by simp);rw[if_pos h2,h2];have a1:xL s.es=x.ty:=by rw[hx];rfl
 rw[a1];rw[show E.rows s.es=E.rows [x] from by rw[hx]]at eM;simp only[E.rows,E.aB]at eM;generalize bf s.es=kv at *;by_cases q:x.ty=t;rw[if_pos q];rw[<-q]at eD ⊢;cases hl:js s.nm 0 c.V with
 |some y=>
  refine⟨.fF [.int .i64 0,.bool false],⟨0,rfl,λ_ _ h=>by cases h⟩,?_⟩;rw[hl]at eD;simp only[EV]at eD;refine an (sf:=nA) rfl rfl rfl ?_;simp[-ax,-ag,nA,eD,hz,dw,gn,eM,bM,mZ,AV.aa,aF,aC]
 |none=>
  refine⟨.fF [.int .i64 c.V.length,.bool true],⟨c.V.length,rfl,λ_ _ h=>by cases h;rfl⟩,?_⟩;rw[hl]at eD;simp only[EV]at eD;simp only[mZ];refine an (sf:=nA) rfl rfl rfl ?_;generalize ({ c with V:=c.V++[(⟨s.nm,x.ty⟩:Vd)] }:CK).bC=ob2 at *;simp[-ax,-ag,nA,eD,hz,dw,gn,eM,bM,AV.aa,aF,aC]
 rw[if_neg q];refine⟨.fF [.int .i64 0,.bool false],⟨0,rfl,λ_ _ h=>by cases h⟩,?_⟩;refine an (sf:=nA) rfl rfl rfl ?_;simp[-ax,-ag,nA,hz,dw,gn,eM,bM,dU,q,mZ,AV.aa,aF,aC];rw[if_neg h2];by_cases h3:s.k=3;obtain⟨x,hx⟩:=one 3 h3 (by simp);rw[if_pos h3,h3];have a1:xL s.es=x.ty:=by rw[hx];rfl
 rw[a1];rw[show E.rows s.es=E.rows [x] from by rw[hx]]at eM;simp only[E.rows,E.aB]at eM;generalize bf s.es=kv at *;cases hv:CG c.H c.V s.nm with
 |none=>
  refine⟨.fF [.int .i64 0,.bool false],⟨0,rfl,λ_ _ h=>by cases h⟩,?_⟩;rw[hv]at eV;simp only[Af]at eV;refine an (sf:=nA) rfl rfl rfl ?_;simp[-ax,-ag,nA,eV,dw,mZ,ah,AV.aa,aF,aC]
 |some y=>
  obtain⟨u,r⟩:=y;rw[hv]at eV;simp only[Af]at eV;by_cases q:u=x.ty;refine⟨.fF [.int .i64 r,.bool true],⟨r,by simp[q],λ_ _ h=>by simp[q]at h;exact h.1⟩,?_⟩;simp only[if_pos q];refine an (sf:=nA) rfl rfl rfl ?_;simp[-ax,-ag,nA,eV,hz,dw,gn,eM,bM,q,mZ,ah,AV.aa,aF,aC];refine⟨.fF [.int .i64 r,.bool false],⟨r,by simp[q],λ_ _ h=>by simp[q]at h⟩,?_⟩;simp only[if_neg q];refine an (sf:=nA) rfl rfl rfl ?_;simp[-ax,-ag,nA,eV,hz,dw,gn,eM,bM,dU,q,mZ,ah,AV.aa,aF,aC]
 rw[if_neg h3];have mM:∀(p:Prop) [Decidable p],ady (if p then some ((0:Int),c.V) else none) (.fF [.int .i64 0,.bool (decide p)]):=λp _=>by
  refine⟨0,?_,λr W h=>?_⟩;by_cases q:p<;>simp[q];split at h<;>cases h;rfl
 have Vq:∀(p:Prop) [Decidable p],mZ c (if p then some ((0:Int),c.V) else none)=c:=λp _=>by
  by_cases q:p<;>simp[q,mZ]
 by_cases h4:s.k=4;rw[if_pos h4,h4];obtain⟨x,y,hx⟩:∃x y,s.es=[x,y]:=by
  rw[h4]at hf;unfold eu at hf;match hh:s.es,hf with
  |[x,y],_=>exact⟨x,y,rfl⟩
 have a1:xL s.es=x.ty:=by rw[hx];rfl
 have a2:EC s.es=y.ty:=by rw[hx];rfl
 rw[a1,a2];rw[show E.rows s.es=E.rows [x,y] from by rw[hx]]at eM;simp only[E.rows,E.aB]at eM;generalize bf s.es=kv at *;refine⟨_,mM _,?_⟩;rw[Vq];refine an (sf:=nA) rfl rfl rfl ?_;simp[-ax,-ag,nA,hz,dw,gn,eM,bM,dU,AV.aa,aF,aC];rw[if_neg h4];by_cases h5:s.k=5;obtain⟨x,hx⟩:=one 5 h5 (by simp);rw[if_pos (.inl h5),h5];have a1:xL s.es=x.ty:=by rw[hx];rfl
 rw[a1];rw[show E.rows s.es=E.rows [x] from by rw[hx]]at eM;simp only[E.rows,E.aB]at eM;generalize bf s.es=kv at *;refine⟨_,mM _,?_⟩;rw[Vq];refine an (sf:=nA) rfl rfl rfl ?_;simp[-ax,-ag,nA,hz,dw,gn,eM,bM,eT,dB,AV.aa,aF,aC];by_cases h6:s.k=6;obtain⟨x,hx⟩:=one 6 h6 (by simp);rw[if_pos (.inr h6),h6];have a1:xL s.es=x.ty:=by rw[hx];rfl
 rw[a1];rw[show E.rows s.es=E.rows [x] from by rw[hx]]at eM;simp only[E.rows,E.aB]at eM;generalize bf s.es=kv at *;refine⟨_,mM _,?_⟩;rw[Vq];refine an (sf:=nA) rfl rfl rfl ?_;simp[-ax,-ag,nA,hz,dw,gn,eM,bM,eT,dB,AV.aa,aF,aC];rw[if_neg (λh=>h.elim h5 h6)];by_cases h7:s.k=7;rw[if_pos h7,h7];refine⟨_,mM _,?_⟩;rw[Vq];rw[h7]at hf;refine an (sf:=nA) rfl rfl rfl ?_;match mO:s.es with
 |[]=>
  rw[mO]at hz dw gn eM;generalize bf []=kv at *;simp[-ax,-ag,nA,dw,gn,eM,E.rows,AV.aa,aF,aC]
 |[x]=>
  rw[mO]at hz dw gn eM;simp only[E.rows,E.aB]at eM;generalize bf [x]=kv at *;have a1:xL [x]=x.ty:=rfl;have cr:=λwl J r bx=>ah5 (wl:=wl) (J:=J) (c:=c) (r:=r) (bx:=bx);simp[-ax,-ag,nA,hz,dw,gn,eM,bM,cr,dU,a1,AV.aa,aF,aC]
 |x::y::l=>
  rw[mO]at hf;simp[eu]at hf
 rw[if_neg h7];by_cases h8:s.k=8;obtain⟨x,hx⟩:=one 8 h8 (by simp);rw[if_pos h8,h8];have a1:xL s.es=x.ty:=by rw[hx];rfl
 rw[a1];rw[show E.rows s.es=E.rows [x] from by rw[hx]]at eM;simp only[E.rows,E.aB]at eM;generalize bf s.es=kv at *;refine⟨_,mM _,?_⟩;rw[Vq];refine an (sf:=nA) rfl rfl rfl ?_;simp[-ax,-ag,nA,hz,dw,gn,eM,bM,eN,dI,AV.aa,aF,aC];rw[if_neg h8];refine⟨.fF [.int .i64 0,.bool true],⟨0,rfl,λ_ _ h=>by cases h;rfl⟩,?_⟩;simp only[mZ];refine an (sf:=nA) rfl rfl rfl ?_;generalize bf s.es=kv at *;simp[-ax,-ag,nA,h1,h2,h3,h4,h5,h6,h7,h8,dw,AV.aa]
end K9
namespace K9
open Ax Go bX V7 lf mG
def CK.bt(c:CK)(W:List Vd):CK:={ c with V:=W }
def Vr(r:List AV):Prop:=∃(k:Int)(nm on:List UInt8)(od:Int)(es bd el:AV)(a ref:Int),r=[.int .i64 k,.str nm,.str on,.int .i64 od,es,bd,el,.int .i64 a,.int .i64 ref]/\aR es=true/\aR bd=true/\aR el=true
abbrev Z9:List AV:=[.int .i64 0,.str [],.str [],.int .i64 0,.U,.U,.U,.int .i64 0,.int .i64 0]
theorem tQ:Vr Z9:=⟨0,[],[],0,.U,.U,.U,0,0,rfl,rfl,rfl,rfl⟩
def AN(c:CK)(s:Sm):Prop:=match zh c.H c.sg.ct c.sg.res c.V s with
 |.ok (y,W)=>∀J,(aT S).call 0 J 95 [.ptr 0 0 0 0,.agg s.aG] [c.bC]=some (.agg y.aG,[(c.bt W).bC])|.error a=>∀J,∃W aG,Vr aG/\(aT S).call 0 J 95 [.ptr 0 0 0 0,.agg s.aG] [c.bC]=some (.agg aG,[((c.bt W).fail a).bC])
def IX(c:CK)(l:List Sm):Prop:=match kW c.H c.sg.ct c.sg.res c.V l with
 |.ok (ys,W)=>∀J,(aT S).call 0 J 75 [.ptr 0 0 0 0,bF l] [c.bC]=some (cC 9 (Sm.rows ys),[(c.bt W).bC])|.error a=>∀J,∃W v,aR v=true/\(aT S).call 0 J 75 [.ptr 0 0 0 0,bF l] [c.bC]=some (v,[((c.bt W).fail a).bC])
theorem Ja{c:CK}{W:List Vd}(h:AP c)(hW:∀f∈W,WT c.H.rs.length f.ty)(hl:W.length<1000000000):AP (c.bt W):=⟨⟨hl,h.s.G,h.s.S,h.s.R,h.s.F,h.s.P⟩,h.H,hW⟩
theorem Hl(J:Nat)(c:CK)(l:List Sm)(hf:c.fe≠0)(hn:l.length<1000000000):(aT S).call 0 J 75 [.ptr 0 0 0 0,bF l] [c.bC]=some (.U,[c.bC]):=by
 have hz:dg 9 (bF l)=true:=Db;have dw:aR (bF l)=true:=bN;have gn:(bF l).aa=bF l:=bQ;have eM:bg (bF l)=Sm.rows l:=aZ;have kK:=λJ=>cF J c [];rw[decide_eq_false hf]at kK;refine an (sf:=s75) rfl rfl rfl ?_;cases l with
 |nil=>
  generalize bF []=lv at *;rw[Sm.rows]at eM;simp[-ax,-ag,s75,dw,gn,eM];rw[Iq El.eq_1];simp[-ax,-ag]
 |cons s l=>
  have hlen:0<(Sm.rows (s::l)).length:=by simp
  have hg:(Sm.rows (s::l))[0]?=some s.aG:=by simp[Sm.rows]
  have hg':∀h:0<(Sm.rows (s::l)).length,(Sm.rows (s::l))[0]=s.aG:=λh=>by simp[Sm.rows]
  generalize bF (s::l)=lv at *;generalize Sm.rows (s::l)=rws at *;rw[Sm.aB]at hg;have aaT:0<rws.length:=hlen;have ah8:=hg' aaT;rw[Sm.aB]at ah8;simp[-ax,-ag,s75,dw,gn,eM];rw[Iq El.eq_1];simp[-ax,-ag,gn,eM,hz,aaT,ah8,bM,kK,ah,AV.aa]
theorem qF(J:Nat)(c:CK)(k:Int)(nm on:List UInt8)(od:Int)(ys:List E)(a:Int)(t:T3)(hs:Ce c)(hf:eu c.sg.ct k ys=true) :
  ∃v,ady (mH c.H c.sg.res c.V k nm ys t) v/\(aT S).call 0 J 122 [.ptr 0 0 0 0,.agg (Sm.mk k nm on od ys [] [] a 0).aG,.agg [.int .i64 t.b,.int .i64 t.r,.int .i64 t.d]] [c.bC]=some (v,[(mZ c (mH c.H c.sg.res c.V k nm ys t)).bC]):=
 YY J c (.mk k nm on od ys [] [] a 0) t hs hf
theorem adz(c:CK)(s:Sm)(hn:s.es.length<1000000000)(h:eu c.sg.ct s.k s.es=false):AN c s:=by
 unfold AN;rw[oR,h];simp only[Bool.false_eq_true,if_false];intro J;refine⟨c.V,Z9,tQ,?_⟩;have ny:=λJ=>kP J c s hn;rw[h]at ny;have en:=λwl J st=>lz wl J st;have Dc:=λJ=>eE J c s.a [];have qv:c.bt c.V=c:=rfl;rw[qv];rw[Sm.aB s]at ny ⊢;generalize (c.fail s.a).bC=o at *;refine an (sf:=mA) rfl rfl rfl ?_;simp[-ax,-ag,mA,ny,en,Dc,ah,AV.aa,AV.au,AV.af,aV,bD]
theorem adA(c:CK)(s:Sm)(hf:c.fe=0)(hw:AP c)(eI:c.V.length+Sm.sz s<1000000000)(hk:s.k=1)(h:eu c.sg.ct s.k s.es=true):AN c s:=by
 unfold AN;have hz:=Sm.sY s;have tK:=E.fo s.es;have ny:=λJ=>kP J c s (by omega);rw[h]at ny;have en:=λwl J st=>lz wl J st;have Dc:=λJ=>eE J c s.a [];have nE:=λJ=>cF J c [];rw[decide_eq_true hf]at nE;have qv:c.bt c.V=c:=rfl;have dj:=Sm.aB s;rw[hk]at dj;rw[oR,h];rw[hk]at h ⊢;simp only[if_true];rw[dj]at ny ⊢;have e1:aR (bf s.es)=true:=bP;have e2:(bf s.es).aa=bf s.es:=bS;have b1:aR (bF s.bd)=true:=bN;have b2:(bF s.bd).aa=bF s.bd:=bQ;have l1:aR (bF s.el)=true:=bN;have l2:(bF s.el).aa=bF s.el:=bQ;have cG:=mc c s.es hf (by omega) (λe he=>jH c hf hw e (by have:=E.cR he;omega));have wR:zY c.H c.V 1 s.es=oh c.H c.V s.es:=tO (by decide);have Cg:=λwl J st=>mQ wl J c.H.rs s.on s.od st hw.s.R;have Lz:nQ c.H 1 s.on s.od=if (dA c.H.rs s.on s.od).2 then some (dA c.H.rs s.on s.od).1 else none:=if_pos (by decide)
 rw[Lz];unfold tyV at Cg;have hwt:=pz c.H.rs s.on s.od;generalize dA c.H.rs s.on s.od=tt at *;obtain⟨t,b⟩:=tt;cases b with
 |false=>
  simp only[Bool.false_eq_true,if_false];intro J;refine⟨c.V,Z9,tQ,?_⟩;rw[qv];simp only at Cg;generalize bf s.es=ev at *;generalize bF s.bd=bv at *;generalize bF s.el=lv at *;generalize (c.fail s.a).bC=o at *;refine an (sf:=mA) rfl rfl rfl ?_;simp[-ax,-ag,mA,ny,en,e1,e2,b1,b2,l1,l2,y6,Cg,Dc,ah,AV.aa,AV.au,AV.af,aF,aV,bD,aC]
 |true=>
 simp only[if_true];simp only at Cg;rw[wR];cases hv:oh c.H c.V s.es with
 |error a=>
  rw[hv]at cG;simp only at cG ⊢;intro J;refine⟨c.V,Z9,tQ,?_⟩;rw[qv];obtain⟨v,dw,ev⟩:=cG 1;have FD:=bK dw;have Rh:=cm dw;have kK:=λJ=>cF J (c.fail a) [];rw[decide_eq_false jI]at kK;generalize bf s.es=kv at *;generalize bF s.bd=bv at *;generalize bF s.el=lv at *;generalize (c.fail a).bC=o at *;refine an (sf:=mA) rfl rfl rfl ?_;simp[-ax,-ag,mA,ny,en,e1,e2,b1,b2,l1,l2,y6,Cg,ev,dw,kK,ah,AV.aa,AV.au,AV.af,aF,aV,bD,aC]
 |ok ys=>
  rw[hv]at cG;simp only at cG ⊢;have pN:eu c.sg.ct 1 ys=true:=nS hv h;obtain⟨fv,⟨z,rfl,oo⟩,cS⟩:=qF 1 c 1 (cv 1 s.nm) (bI 1 s.on) (bJ 1 s.od) ys s.a t hw.s pN;simp only[nT]at oo cS;have mo:(Sm.mk 1 (cv 1 s.nm) (bI 1 s.on) (bJ 1 s.od) ys [] [] s.a 0).aG=[.int .i64 1,.str s.nm,.str s.on,.int .i64 s.od,bf ys,.U,.U,.int .i64 s.a,.int .i64 0]:=by simp[Sm.aG,Sm.rows,cv,bI,bJ]
  rw[mo]at cS;have m1:aR (cC 11 (E.rows ys))=true:=dz;have m2:(cC 11 (E.rows ys)).aa=bf ys:=rfl;generalize cC 11 (E.rows ys)=mv at *;have m3:=bK m1;have m4:=cm m1;have y1:aR (bf ys)=true:=bP;have y2:(bf ys).aa=bf ys:=bS;generalize Jb:bf ys=yv at *;generalize bf s.es=kv at *;cases hT:mH c.H c.sg.res c.V 1 s.nm ys t with
  |none=>
   simp only;intro J;refine⟨c.V,Z9,tQ,?_⟩;rw[qv];rw[hT]at cS;simp only[Option.isSome_none,mZ]at cS;generalize bF s.bd=bv at *;generalize bF s.el=lv at *;generalize (c.fail s.a).bC=o at *;refine an (sf:=mA) rfl rfl rfl ?_;simp[-ax,-ag,mA,ny,en,e1,e2,b1,b2,l1,l2,y6,Cg,cG,m1,m2,nE,cS,Dc,ah,AV.aa,AV.au,AV.af,aF,aV,bD,aC]
  |some x=>
   obtain⟨r,W⟩:=x;have oo:=oo r W hT;subst oo;rw[hT]at cS;simp only[Option.isSome_some,mZ]at cS;have LA:({ c with V:=W }:CK)=c.bt W:=rfl;rw[LA]at cS;simp only[show ¬((1:Int)=5) from by decide,show ¬((1:Int)=6) from by decide,if_false];intro J;have BR:(Sm.mk 1 (cv 1 s.nm) (bI 1 s.on) (bJ 1 s.od) ys [] [] s.a z).aG=[.int .i64 1,.str s.nm,.str s.on,.int .i64 s.od,yv,.U,.U,.int .i64 s.a,.int .i64 z]:=(by simp[Sm.aG,Sm.rows,cv,bI,bJ,Jb]);show _=some (AV.agg (Sm.mk 1 (cv 1 s.nm) (bI 1 s.on) (bJ 1 s.od) ys [] [] s.a z).aG,_);rw[BR];generalize bF s.bd=bv at *;generalize bF s.el=lv at *;generalize (c.bt W).bC=o at *;refine an (sf:=mA) rfl rfl rfl ?_;simp[-ax,-ag,mA,ny,en,e1,e2,b1,b2,l1,l2,y6,Cg,cG,m1,m2,y1,nE,cS,ah,AV.aa,AV.au,AV.af,aF,aV,bD,aC]
theorem adB(c:CK)(s:Sm)(hf:c.fe=0)(hw:AP c)(eI:c.V.length+Sm.sz s<1000000000)(hk:s.k=2)(h:eu c.sg.ct s.k s.es=true):AN c s:=by
 unfold AN;have hz:=Sm.sY s;have tK:=E.fo s.es;have ny:=λJ=>kP J c s (by omega);rw[h]at ny;have en:=λwl J st=>lz wl J st;have Dc:=λJ=>eE J c s.a [];have nE:=λJ=>cF J c [];rw[decide_eq_true hf]at nE;have qv:c.bt c.V=c:=rfl;have dj:=Sm.aB s;rw[hk]at dj;rw[oR,h];rw[hk]at h ⊢;simp only[if_true];rw[dj]at ny ⊢;have e1:aR (bf s.es)=true:=bP;have e2:(bf s.es).aa=bf s.es:=bS;have b1:aR (bF s.bd)=true:=bN;have b2:(bF s.bd).aa=bF s.bd:=bQ;have l1:aR (bF s.el)=true:=bN;have l2:(bF s.el).aa=bF s.el:=bQ;have cG:=mc c s.es hf (by omega) (λe he=>jH c hf hw e (by have:=E.cR he;omega));have wR:zY c.H c.V 2 s.es=oh c.H c.V s.es:=tO (by decide);have Cg:=λwl J st=>mQ wl J c.H.rs s.on s.od st hw.s.R;have Lz:nQ c.H 2 s.on s.od=if (dA c.H.rs s.on s.od).2 then some (dA c.H.rs s.on s.od).1 else none:=if_pos (by decide)
 rw[Lz];unfold tyV at Cg;have hwt:=pz c.H.rs s.on s.od;generalize dA c.H.rs s.on s.od=tt at *;obtain⟨t,b⟩:=tt;cases b with
 |false=>
  simp only[Bool.false_eq_true,if_false];intro J;refine⟨c.V,Z9,tQ,?_⟩;rw[qv];simp only at Cg;generalize bf s.es=ev at *;generalize bF s.bd=bv at *;generalize bF s.el=lv at *;generalize (c.fail s.a).bC=o at *;refine an (sf:=mA) rfl rfl rfl ?_;simp[-ax,-ag,mA,ny,en,e1,e2,b1,b2,l1,l2,y6,Cg,Dc,ah,AV.aa,AV.au,AV.af,aF,aV,bD,aC]
 |true=>
 simp only[if_true];simp only at Cg;rw[wR];cases hv:oh c.H c.V s.es with
 |error a=>
  rw[hv]at cG;simp only at cG ⊢;intro J;refine⟨c.V,Z9,tQ,?_⟩;rw[qv];obtain⟨v,dw,ev⟩:=cG 1;have FD:=bK dw;have Rh:=cm dw;have kK:=λJ=>cF J (c.fail a) [];rw[decide_eq_false jI]at kK;generalize bf s.es=kv at *;generalize bF s.bd=bv at *;generalize bF s.el=lv at *;generalize (c.fail a).bC=o at *;refine an (sf:=mA) rfl rfl rfl ?_;simp[-ax,-ag,mA,ny,en,e1,e2,b1,b2,l1,l2,y6,Cg,ev,dw,kK,ah,AV.aa,AV.au,AV.af,aF,aV,bD,aC]
 |ok ys=>
  rw[hv]at cG;simp only at cG ⊢;have pN:eu c.sg.ct 2 ys=true:=nS hv h;obtain⟨fv,⟨z,rfl,oo⟩,cS⟩:=qF 1 c 2 (cv 2 s.nm) (bI 2 s.on) (bJ 2 s.od) ys s.a t hw.s pN;simp only[nT]at oo cS;have mo:(Sm.mk 2 (cv 2 s.nm) (bI 2 s.on) (bJ 2 s.od) ys [] [] s.a 0).aG=[.int .i64 2,.str s.nm,.str s.on,.int .i64 s.od,bf ys,.U,.U,.int .i64 s.a,.int .i64 0]:=by simp[Sm.aG,Sm.rows,cv,bI,bJ]
  rw[mo]at cS;have m1:aR (cC 11 (E.rows ys))=true:=dz;have m2:(cC 11 (E.rows ys)).aa=bf ys:=rfl;generalize cC 11 (E.rows ys)=mv at *;have m3:=bK m1;have m4:=cm m1;have y1:aR (bf ys)=true:=bP;have y2:(bf ys).aa=bf ys:=bS;generalize Jb:bf ys=yv at *;generalize bf s.es=kv at *;cases hT:mH c.H c.sg.res c.V 2 s.nm ys t with
  |none=>
   simp only;intro J;refine⟨c.V,Z9,tQ,?_⟩;rw[qv];rw[hT]at cS;simp only[Option.isSome_none,mZ]at cS;generalize bF s.bd=bv at *;generalize bF s.el=lv at *;generalize (c.fail s.a).bC=o at *;refine an (sf:=mA) rfl rfl rfl ?_;simp[-ax,-ag,mA,ny,en,e1,e2,b1,b2,l1,l2,y6,Cg,cG,m1,m2,nE,cS,Dc,ah,AV.aa,AV.au,AV.af,aF,aV,bD,aC]
  |some x=>
   obtain⟨r,W⟩:=x;have oo:=oo r W hT;subst oo;rw[hT]at cS;simp only[Option.isSome_some,mZ]at cS;have LA:({ c with V:=W }:CK)=c.bt W:=rfl;rw[LA]at cS;simp only[show ¬((2:Int)=5) from by decide,show ¬((2:Int)=6) from by decide,if_false];intro J;have BR:(Sm.mk 2 (cv 2 s.nm) (bI 2 s.on) (bJ 2 s.od) ys [] [] s.a z).aG=[.int .i64 2,.str s.nm,.str s.on,.int .i64 s.od,yv,.U,.U,.int .i64 s.a,.int .i64 z]:=(by simp[Sm.aG,Sm.rows,cv,bI,bJ,Jb]);show _=some (AV.agg (Sm.mk 2 (cv 2 s.nm) (bI 2 s.on) (bJ 2 s.od) ys [] [] s.a z).aG,_);rw[BR];generalize bF s.bd=bv at *;generalize bF s.el=lv at *;generalize (c.bt W).bC=o at *;refine an (sf:=mA) rfl rfl rfl ?_;simp[-ax,-ag,mA,ny,en,e1,e2,b1,b2,l1,l2,y6,Cg,cG,m1,m2,y1,nE,cS,ah,AV.aa,AV.au,AV.af,aF,aV,bD,aC]
theorem adC(c:CK)(s:Sm)(hf:c.fe=0)(hw:AP c)(eI:c.V.length+Sm.sz s<1000000000)(hk:s.k=3)(h:eu c.sg.ct s.k s.es=true):AN c s:=by
 unfold AN;have hz:=Sm.sY s;have tK:=E.fo s.es;have ny:=λJ=>kP J c s (by omega);rw[h]at ny;have en:=λwl J st=>lz wl J st;have Dc:=λJ=>eE J c s.a [];have nE:=λJ=>cF J c [];rw[decide_eq_true hf]at nE;have qv:c.bt c.V=c:=rfl;have dj:=Sm.aB s;rw[hk]at dj;rw[oR,h];rw[hk]at h ⊢;simp only[if_true];rw[dj]at ny ⊢;have e1:aR (bf s.es)=true:=bP;have e2:(bf s.es).aa=bf s.es:=bS;have b1:aR (bF s.bd)=true:=bN;have b2:(bF s.bd).aa=bF s.bd:=bQ;have l1:aR (bF s.el)=true:=bN;have l2:(bF s.el).aa=bF s.el:=bQ;have cG:=mc c s.es hf (by omega) (λe he=>jH c hf hw e (by have:=E.cR he;omega));have wR:zY c.H c.V 3 s.es=oh c.H c.V s.es:=tO (by decide);have Lz:nQ c.H 3 s.on s.od=some T0:=if_neg (by decide);rw[Lz];simp only;rw[wR];cases hv:oh c.H c.V s.es with
 |error a=>
  rw[hv]at cG;simp only at cG ⊢;intro J;refine⟨c.V,Z9,tQ,?_⟩;rw[qv];obtain⟨v,dw,ev⟩:=cG 1;have FD:=bK dw;have Rh:=cm dw;have kK:=λJ=>cF J (c.fail a) [];rw[decide_eq_false jI]at kK;generalize bf s.es=kv at *;generalize bF s.bd=bv at *;generalize bF s.el=lv at *;generalize (c.fail a).bC=o at *;refine an (sf:=mA) rfl rfl rfl ?_;simp[-ax,-ag,mA,ny,en,e1,e2,b1,b2,l1,l2,ev,dw,kK,ah,AV.aa,AV.au,AV.af,aV,bD]
 |ok ys=>
  rw[hv]at cG;simp only at cG ⊢;have pN:eu c.sg.ct 3 ys=true:=nS hv h;obtain⟨fv,⟨z,rfl,oo⟩,cS⟩:=qF 1 c 3 (cv 3 s.nm) (bI 3 s.on) (bJ 3 s.od) ys s.a T0 hw.s pN;simp only[nT]at oo cS;have mo:(Sm.mk 3 (cv 3 s.nm) (bI 3 s.on) (bJ 3 s.od) ys [] [] s.a 0).aG=[.int .i64 3,.str s.nm,.str [],.int .i64 0,bf ys,.U,.U,.int .i64 s.a,.int .i64 0]:=by simp[Sm.aG,Sm.rows,cv,bI,bJ]
  rw[mo]at cS;have m1:aR (cC 11 (E.rows ys))=true:=dz;have m2:(cC 11 (E.rows ys)).aa=bf ys:=rfl;generalize cC 11 (E.rows ys)=mv at *;have m3:=bK m1;have m4:=cm m1;have y1:aR (bf ys)=true:=bP;have y2:(bf ys).aa=bf ys:=bS;generalize Jb:bf ys=yv at *;generalize bf s.es=kv at *;cases hT:mH c.H c.sg.res c.V 3 s.nm ys T0 with
  |none=>
   simp only;intro J;refine⟨c.V,Z9,tQ,?_⟩;rw[qv];rw[hT]at cS;simp only[Option.isSome_none,mZ]at cS;generalize bF s.bd=bv at *;generalize bF s.el=lv at *;generalize (c.fail s.a).bC=o at *;refine an (sf:=mA) rfl rfl rfl ?_;simp[-ax,-ag,mA,ny,en,e1,e2,b1,b2,l1,l2,cG,m1,m2,nE,cS,Dc,ah,AV.aa,AV.au,AV.af,aV,bD]
  |some x=>
   obtain⟨r,W⟩:=x;have oo:=oo r W hT;subst oo;rw[hT]at cS;simp only[Option.isSome_some,mZ]at cS;have LA:({ c with V:=W }:CK)=c.bt W:=rfl;rw[LA]at cS;simp only[show ¬((3:Int)=5) from by decide,show ¬((3:Int)=6) from by decide,if_false];intro J;have BR:(Sm.mk 3 (cv 3 s.nm) (bI 3 s.on) (bJ 3 s.od) ys [] [] s.a z).aG=[.int .i64 3,.str s.nm,.str [],.int .i64 0,yv,.U,.U,.int .i64 s.a,.int .i64 z]:=(by simp[Sm.aG,Sm.rows,cv,bI,bJ,Jb]);show _=some (AV.agg (Sm.mk 3 (cv 3 s.nm) (bI 3 s.on) (bJ 3 s.od) ys [] [] s.a z).aG,_);rw[BR];generalize bF s.bd=bv at *;generalize bF s.el=lv at *;generalize (c.bt W).bC=o at *;refine an (sf:=mA) rfl rfl rfl ?_;simp[-ax,-ag,mA,ny,en,e1,e2,b1,b2,l1,l2,cG,m1,m2,y1,nE,cS,ah,AV.aa,AV.au,AV.af,aV,bD]
theorem adD(c:CK)(s:Sm)(hf:c.fe=0)(hw:AP c)(eI:c.V.length+Sm.sz s<1000000000)(hk:s.k=4)(h:eu c.sg.ct s.k s.es=true):AN c s:=by
 unfold AN;have hz:=Sm.sY s;have tK:=E.fo s.es;have ny:=λJ=>kP J c s (by omega);rw[h]at ny;have en:=λwl J st=>lz wl J st;have Dc:=λJ=>eE J c s.a [];have nE:=λJ=>cF J c [];rw[decide_eq_true hf]at nE;have qv:c.bt c.V=c:=rfl;have dj:=Sm.aB s;rw[hk]at dj;rw[oR,h];rw[hk]at h ⊢;simp only[if_true];rw[dj]at ny ⊢;have e1:aR (bf s.es)=true:=bP;have e2:(bf s.es).aa=bf s.es:=bS;have b1:aR (bF s.bd)=true:=bN;have b2:(bF s.bd).aa=bF s.bd:=bQ;have l1:aR (bF s.el)=true:=bN;have l2:(bF s.el).aa=bF s.el:=bQ;have cG:=mc c s.es hf (by omega) (λe he=>jH c hf hw e (by have:=E.cR he;omega));have wR:zY c.H c.V 4 s.es=oh c.H c.V s.es:=tO (by decide);have Lz:nQ c.H 4 s.on s.od=some T0:=if_neg (by decide);rw[Lz];simp only;rw[wR];cases hv:oh c.H c.V s.es with
 |error a=>
  rw[hv]at cG;simp only at cG ⊢;intro J;refine⟨c.V,Z9,tQ,?_⟩;rw[qv];obtain⟨v,dw,ev⟩:=cG 1;have FD:=bK dw;have Rh:=cm dw;have kK:=λJ=>cF J (c.fail a) [];rw[decide_eq_false jI]at kK;generalize bf s.es=kv at *;generalize bF s.bd=bv at *;generalize bF s.el=lv at *;generalize (c.fail a).bC=o at *;refine an (sf:=mA) rfl rfl rfl ?_;simp[-ax,-ag,mA,ny,en,e1,e2,b1,b2,l1,l2,ev,dw,kK,ah,AV.aa,AV.au,AV.af,aV,bD]
 |ok ys=>
  rw[hv]at cG;simp only at cG ⊢;have pN:eu c.sg.ct 4 ys=true:=nS hv h;obtain⟨fv,⟨z,rfl,oo⟩,cS⟩:=qF 1 c 4 (cv 4 s.nm) (bI 4 s.on) (bJ 4 s.od) ys s.a T0 hw.s pN;simp only[nT]at oo cS;have mo:(Sm.mk 4 (cv 4 s.nm) (bI 4 s.on) (bJ 4 s.od) ys [] [] s.a 0).aG=[.int .i64 4,.str [],.str [],.int .i64 0,bf ys,.U,.U,.int .i64 s.a,.int .i64 0]:=by simp[Sm.aG,Sm.rows,cv,bI,bJ]
  rw[mo]at cS;have m1:aR (cC 11 (E.rows ys))=true:=dz;have m2:(cC 11 (E.rows ys)).aa=bf ys:=rfl;generalize cC 11 (E.rows ys)=mv at *;have m3:=bK m1;have m4:=cm m1;have y1:aR (bf ys)=true:=bP;have y2:(bf ys).aa=bf ys:=bS;generalize Jb:bf ys=yv at *;generalize bf s.es=kv at *;cases hT:mH c.H c.sg.res c.V 4 s.nm ys T0 with
  |none=>
   simp only;intro J;refine⟨c.V,Z9,tQ,?_⟩;rw[qv];rw[hT]at cS;simp only[Option.isSome_none,mZ]at cS;generalize bF s.bd=bv at *;generalize bF s.el=lv at *;generalize (c.fail s.a).bC=o at *;refine an (sf:=mA) rfl rfl rfl ?_;simp[-ax,-ag,mA,ny,en,e1,e2,b1,b2,l1,l2,cG,m1,m2,nE,cS,Dc,ah,AV.aa,AV.au,AV.af,aV,bD]
  |some x=>
   obtain⟨r,W⟩:=x;have oo:=oo r W hT;subst oo;rw[hT]at cS;simp only[Option.isSome_some,mZ]at cS;have LA:({ c with V:=W }:CK)=c.bt W:=rfl;rw[LA]at cS;simp only[show ¬((4:Int)=5) from by decide,show ¬((4:Int)=6) from by decide,if_false];intro J;have BR:(Sm.mk 4 (cv 4 s.nm) (bI 4 s.on) (bJ 4 s.od) ys [] [] s.a z).aG=[.int .i64 4,.str [],.str [],.int .i64 0,yv,.U,.U,.int .i64 s.a,.int .i64 z]:=(by simp[Sm.aG,Sm.rows,cv,bI,bJ,Jb]);show _=some (AV.agg (Sm.mk 4 (cv 4 s.nm) (bI 4 s.on) (bJ 4 s.od) ys [] [] s.a z).aG,_);rw[BR];generalize bF s.bd=bv at *;generalize bF s.el=lv at *;generalize (c.bt W).bC=o at *;refine an (sf:=mA) rfl rfl rfl ?_;simp[-ax,-ag,mA,ny,en,e1,e2,b1,b2,l1,l2,cG,m1,m2,y1,nE,cS,ah,AV.aa,AV.au,AV.af,aV,bD]
end K9
namespace K9
open Ax Go bX V7 lf mG
theorem adE(c:CK)(s:Sm)(hf:c.fe=0)(hw:AP c)(eI:c.V.length+Sm.sz s<1000000000)(hk:s.k=5)(h:eu c.sg.ct s.k s.es=true)(NF:∀d:CK,d.H=c.H->d.sg=c.sg->d.fe=0->AP d->d.V.length+Sm.ey s.bd<1000000000->IX d s.bd)(Rm:∀d:CK,d.H=c.H->d.sg=c.sg->d.fe=0->AP d->d.V.length+Sm.ey s.el<1000000000->IX d s.el):AN c s:=by
 unfold AN;have hz:=Sm.sY s;have tK:=E.fo s.es;have ny:=λJ=>kP J c s (by omega);rw[h]at ny;have en:=λwl J st=>lz wl J st;have Dc:=λJ=>eE J c s.a [];have nE:=λJ=>cF J c [];rw[decide_eq_true hf]at nE;have qv:c.bt c.V=c:=rfl;have dj:=Sm.aB s;rw[hk]at dj;rw[oR,h];rw[hk]at h ⊢;simp only[if_true];rw[dj]at ny ⊢;have e1:aR (bf s.es)=true:=bP;have e2:(bf s.es).aa=bf s.es:=bS;have b1:aR (bF s.bd)=true:=bN;have b2:(bF s.bd).aa=bF s.bd:=bQ;have l1:aR (bF s.el)=true:=bN;have l2:(bF s.el).aa=bF s.el:=bQ;have cG:=mc c s.es hf (by omega) (λe he=>jH c hf hw e (by have:=E.cR he;omega));have wR:zY c.H c.V 5 s.es=oh c.H c.V s.es:=tO (by decide);have Lz:nQ c.H 5 s.on s.od=some T0:=if_neg (by decide);rw[Lz];simp only;rw[wR];cases hv:oh c.H c.V s.es with
 |error a=>
  rw[hv]at cG;simp only at cG ⊢;intro J;refine⟨c.V,Z9,tQ,?_⟩;rw[qv];obtain⟨v,dw,ev⟩:=cG 1;have FD:=bK dw;have Rh:=cm dw;have kK:=λJ=>cF J (c.fail a) [];rw[decide_eq_false jI]at kK;generalize bf s.es=kv at *;generalize bF s.bd=bv at *;generalize bF s.el=lv at *;generalize (c.fail a).bC=o at *;refine an (sf:=mA) rfl rfl rfl ?_;simp[-ax,-ag,mA,ny,en,e1,e2,b1,b2,l1,l2,ev,dw,kK,ah,AV.aa,AV.au,AV.af,aV,bD]
 |ok ys=>
  rw[hv]at cG;simp only at cG ⊢;have pN:eu c.sg.ct 5 ys=true:=nS hv h;obtain⟨fv,⟨z,rfl,oo⟩,cS⟩:=qF 1 c 5 (cv 5 s.nm) (bI 5 s.on) (bJ 5 s.od) ys s.a T0 hw.s pN;simp only[nT]at oo cS;have mo:(Sm.mk 5 (cv 5 s.nm) (bI 5 s.on) (bJ 5 s.od) ys [] [] s.a 0).aG=[.int .i64 5,.str [],.str [],.int .i64 0,bf ys,.U,.U,.int .i64 s.a,.int .i64 0]:=by simp[Sm.aG,Sm.rows,cv,bI,bJ]
  rw[mo]at cS;have m1:aR (cC 11 (E.rows ys))=true:=dz;have m2:(cC 11 (E.rows ys)).aa=bf ys:=rfl;generalize cC 11 (E.rows ys)=mv at *;have m3:=bK m1;have m4:=cm m1;have y1:aR (bf ys)=true:=bP;have y2:(bf ys).aa=bf ys:=bS;generalize Jb:bf ys=yv at *;generalize bf s.es=kv at *;cases hT:mH c.H c.sg.res c.V 5 s.nm ys T0 with
  |none=>
   simp only;intro J;refine⟨c.V,Z9,tQ,?_⟩;rw[qv];rw[hT]at cS;simp only[Option.isSome_none,mZ]at cS;generalize bF s.bd=bv at *;generalize bF s.el=lv at *;generalize (c.fail s.a).bC=o at *;refine an (sf:=mA) rfl rfl rfl ?_;simp[-ax,-ag,mA,ny,en,e1,e2,b1,b2,l1,l2,cG,m1,m2,nE,cS,Dc,ah,AV.aa,AV.au,AV.af,aV,bD]
  |some x=>
   obtain⟨r,W⟩:=x;have oo:=oo r W hT;subst oo;rw[hT]at cS;simp only[Option.isSome_some,mZ]at cS;have LA:({ c with V:=W }:CK)=c.bt W:=rfl;rw[LA]at cS;have hfw:=Lf hT;have hWV:W=c.V:=by
    rcases hfw with e|⟨e,_⟩;exact e;rcases e with e|e<;>cases e
   have hwW:AP (c.bt W):=(by rw[hWV];exact hw);have Wt:=Sm.fo s.bd;have hll:=Sm.fo s.el;have hB:=NF (c.bt W) rfl rfl hf hwW (by show W.length+_<_;rw[hWV];omega);unfold IX at hB;have Vs:kW (c.bt W).H (c.bt W).sg.ct (c.bt W).sg.res (c.bt W).V s.bd=kW c.H c.sg.ct c.sg.res W s.bd:=rfl;rw[Vs]at hB;dsimp only;cases hb:kW c.H c.sg.ct c.sg.res W s.bd with
   |error a=>
    rw[hb]at hB;simp only at hB ⊢;intro J;obtain⟨W',v,v1,ev⟩:=hB 1;have zi:(c.bt W).bt W'=c.bt W':=rfl;rw[zi]at ev;have v3:=bK v1;have v4:=cm v1;have v5:aR v.aa=true:=(by rw[ug];exact v1);have eB:=λJ=>Hl J ((c.bt W').fail a) s.el jI (by omega);refine⟨W',[.int .i64 5,.str [],.str [],.int .i64 0,yv,v.aa,.U,.int .i64 s.a,.int .i64 z],⟨_,_,_,_,_,_,_,_,_,rfl,y1,v5,rfl⟩,?_⟩;generalize bF s.bd=bv at *;generalize bF s.el=lv at *;generalize (c.bt W).bC=o at *;generalize ((c.bt W').fail a).bC=o2 at *;refine an (sf:=mA) rfl rfl rfl ?_;simp[-ax,-ag,mA,ny,en,e1,e2,b1,b2,l1,l2,cG,m1,m2,y1,nE,cS,ev,v1,v5,eB,ah,AV.aa,AV.au,AV.af,aV,bD]
   |ok x=>
    obtain⟨bs,W1⟩:=x;rw[hb]at hB;simp only at hB ⊢;have zi:(c.bt W).bt W1=c.bt W1:=rfl;rw[zi]at hB;have q1:aR (cC 9 (Sm.rows bs))=true:=dz;have q2:(cC 9 (Sm.rows bs)).aa=bF bs:=rfl;have q3:=bK q1;have q4:=cm q1;have q5:aR (bF bs)=true:=bN;obtain⟨w1,w2⟩:=UY (by rw[hWV];exact hw.V) hb;have amW:AP (c.bt W1):=Ja hw w1 (by rw[hWV]at w2;omega);have hL:=Rm (c.bt W1) rfl rfl hf amW (by show W1.length+_<_;rw[hWV]at w2;omega);unfold IX at hL;have Vs:kW (c.bt W1).H (c.bt W1).sg.ct (c.bt W1).sg.res (c.bt W1).V s.el=kW c.H c.sg.ct c.sg.res W1 s.el:=rfl;rw[Vs]at hL;generalize cC 9 (Sm.rows bs)=mb at *;cases hc:kW c.H c.sg.ct c.sg.res W1 s.el with
    |error a=>
     rw[hc]at hL;simp only at hL ⊢;intro J;obtain⟨W',v,v1,ev⟩:=hL 1;have zi:(c.bt W1).bt W'=c.bt W':=rfl;rw[zi]at ev;have v3:=bK v1;have v4:=cm v1;have v5:aR v.aa=true:=(by rw[ug];exact v1);refine⟨W',[.int .i64 5,.str [],.str [],.int .i64 0,yv,bF bs,v.aa,.int .i64 s.a,.int .i64 z],⟨_,_,_,_,_,_,_,_,_,rfl,y1,q5,v5⟩,?_⟩;generalize bF bs=bsv at *;generalize bF s.bd=bv at *;generalize bF s.el=lv at *;generalize (c.bt W).bC=o at *;generalize (c.bt W1).bC=o2 at *;generalize ((c.bt W').fail a).bC=o3 at *;refine an (sf:=mA) rfl rfl rfl ?_;simp[-ax,-ag,mA,ny,en,e1,e2,b1,b2,l1,l2,cG,m1,m2,y1,nE,cS,hB,ev,v1,v5,q1,q2,q5,ah,AV.aa,AV.au,AV.af,aV,bD]
    |ok x=>
     obtain⟨ls,W2⟩:=x;rw[hc]at hL;simp only at hL ⊢;have zi:(c.bt W1).bt W2=c.bt W2:=rfl;rw[zi]at hL;have p1:aR (cC 9 (Sm.rows ls))=true:=dz;have p2:(cC 9 (Sm.rows ls)).aa=bF ls:=rfl;have p3:=bK p1;have p4:=cm p1;have p5:aR (bF ls)=true:=bN;intro J;have BR:(Sm.mk 5 (cv 5 s.nm) (bI 5 s.on) (bJ 5 s.od) ys bs ls s.a z).aG=[.int .i64 5,.str [],.str [],.int .i64 0,yv,bF bs,bF ls,.int .i64 s.a,.int .i64 z]:=(by simp[Sm.aG,cv,bI,bJ,Jb,bF]);show _=some (AV.agg (Sm.mk 5 (cv 5 s.nm) (bI 5 s.on) (bJ 5 s.od) ys bs ls s.a z).aG,_);rw[BR];generalize cC 9 (Sm.rows ls)=ml at *;generalize bF bs=bsv at *;generalize bF ls=lsv at *;generalize bF s.bd=bv at *;generalize bF s.el=lv at *;generalize (c.bt W).bC=o at *;generalize (c.bt W1).bC=o2 at *;generalize (c.bt W2).bC=o3 at *;refine an (sf:=mA) rfl rfl rfl ?_;simp[-ax,-ag,mA,ny,en,e1,e2,b1,b2,l1,l2,cG,m1,m2,y1,nE,cS,hB,hL,q1,q2,q5,p1,p2,p5,ah,AV.aa,AV.au,AV.af,aV,bD]
theorem adF(c:CK)(s:Sm)(hf:c.fe=0)(hw:AP c)(eI:c.V.length+Sm.sz s<1000000000)(hk:s.k=6)(h:eu c.sg.ct s.k s.es=true)(NF:∀d:CK,d.H=c.H->d.sg=c.sg->d.fe=0->AP d->d.V.length+Sm.ey s.bd<1000000000->IX d s.bd):AN c s:=by
 unfold AN;have hz:=Sm.sY s;have tK:=E.fo s.es;have ny:=λJ=>kP J c s (by omega);rw[h]at ny;have en:=λwl J st=>lz wl J st;have Dc:=λJ=>eE J c s.a [];have nE:=λJ=>cF J c [];rw[decide_eq_true hf]at nE;have qv:c.bt c.V=c:=rfl;have dj:=Sm.aB s;rw[hk]at dj;rw[oR,h];rw[hk]at h ⊢;simp only[if_true];rw[dj]at ny ⊢;have e1:aR (bf s.es)=true:=bP;have e2:(bf s.es).aa=bf s.es:=bS;have b1:aR (bF s.bd)=true:=bN;have b2:(bF s.bd).aa=bF s.bd:=bQ;have l1:aR (bF s.el)=true:=bN;have l2:(bF s.el).aa=bF s.el:=bQ;have cG:=mc c s.es hf (by omega) (λe he=>jH c hf hw e (by have:=E.cR he;omega));have wR:zY c.H c.V 6 s.es=oh c.H c.V s.es:=tO (by decide);have Lz:nQ c.H 6 s.on s.od=some T0:=if_neg (by decide);rw[Lz];simp only;rw[wR];cases hv:oh c.H c.V s.es with
 |error a=>
  rw[hv]at cG;simp only at cG ⊢;intro J;refine⟨c.V,Z9,tQ,?_⟩;rw[qv];obtain⟨v,dw,ev⟩:=cG 1;have FD:=bK dw;have Rh:=cm dw;have kK:=λJ=>cF J (c.fail a) [];rw[decide_eq_false jI]at kK;generalize bf s.es=kv at *;generalize bF s.bd=bv at *;generalize bF s.el=lv at *;generalize (c.fail a).bC=o at *;refine an (sf:=mA) rfl rfl rfl ?_;simp[-ax,-ag,mA,ny,en,e1,e2,b1,b2,l1,l2,ev,dw,kK,ah,AV.aa,AV.au,AV.af,aV,bD]
 |ok ys=>
  rw[hv]at cG;simp only at cG ⊢;have pN:eu c.sg.ct 6 ys=true:=nS hv h;obtain⟨fv,⟨z,rfl,oo⟩,cS⟩:=qF 1 c 6 (cv 6 s.nm) (bI 6 s.on) (bJ 6 s.od) ys s.a T0 hw.s pN;simp only[nT]at oo cS;have mo:(Sm.mk 6 (cv 6 s.nm) (bI 6 s.on) (bJ 6 s.od) ys [] [] s.a 0).aG=[.int .i64 6,.str [],.str [],.int .i64 0,bf ys,.U,.U,.int .i64 s.a,.int .i64 0]:=by simp[Sm.aG,Sm.rows,cv,bI,bJ]
  rw[mo]at cS;have m1:aR (cC 11 (E.rows ys))=true:=dz;have m2:(cC 11 (E.rows ys)).aa=bf ys:=rfl;generalize cC 11 (E.rows ys)=mv at *;have m3:=bK m1;have m4:=cm m1;have y1:aR (bf ys)=true:=bP;have y2:(bf ys).aa=bf ys:=bS;generalize Jb:bf ys=yv at *;generalize bf s.es=kv at *;cases hT:mH c.H c.sg.res c.V 6 s.nm ys T0 with
  |none=>
   simp only;intro J;refine⟨c.V,Z9,tQ,?_⟩;rw[qv];rw[hT]at cS;simp only[Option.isSome_none,mZ]at cS;generalize bF s.bd=bv at *;generalize bF s.el=lv at *;generalize (c.fail s.a).bC=o at *;refine an (sf:=mA) rfl rfl rfl ?_;simp[-ax,-ag,mA,ny,en,e1,e2,b1,b2,l1,l2,cG,m1,m2,nE,cS,Dc,ah,AV.aa,AV.au,AV.af,aV,bD]
  |some x=>
   obtain⟨r,W⟩:=x;have oo:=oo r W hT;subst oo;rw[hT]at cS;simp only[Option.isSome_some,mZ]at cS;have LA:({ c with V:=W }:CK)=c.bt W:=rfl;rw[LA]at cS;have hfw:=Lf hT;have hWV:W=c.V:=by
    rcases hfw with e|⟨e,_⟩;exact e;rcases e with e|e<;>cases e
   have hwW:AP (c.bt W):=(by rw[hWV];exact hw);have Wt:=Sm.fo s.bd;have hll:=Sm.fo s.el;have hB:=NF (c.bt W) rfl rfl hf hwW (by show W.length+_<_;rw[hWV];omega);unfold IX at hB;have Vs:kW (c.bt W).H (c.bt W).sg.ct (c.bt W).sg.res (c.bt W).V s.bd=kW c.H c.sg.ct c.sg.res W s.bd:=rfl;rw[Vs]at hB;simp only[show ¬((6:Int)=5) from by decide,if_false];cases hb:kW c.H c.sg.ct c.sg.res W s.bd with
   |error a=>
    rw[hb]at hB;simp only at hB ⊢;intro J;obtain⟨W',v,v1,ev⟩:=hB 1;have zi:(c.bt W).bt W'=c.bt W':=rfl;rw[zi]at ev;have v3:=bK v1;have v4:=cm v1;have v5:aR v.aa=true:=(by rw[ug];exact v1);have eB:=λJ=>Hl J ((c.bt W').fail a) s.el jI (by omega);refine⟨W',[.int .i64 6,.str [],.str [],.int .i64 0,yv,v.aa,.U,.int .i64 s.a,.int .i64 z],⟨_,_,_,_,_,_,_,_,_,rfl,y1,v5,rfl⟩,?_⟩;generalize bF s.bd=bv at *;generalize bF s.el=lv at *;generalize (c.bt W).bC=o at *;generalize ((c.bt W').fail a).bC=o2 at *;refine an (sf:=mA) rfl rfl rfl ?_;simp[-ax,-ag,mA,ny,en,e1,e2,b1,b2,l1,l2,cG,m1,m2,y1,nE,cS,ev,v1,v5,ah,AV.aa,AV.au,AV.af,aV,bD]
   |ok x=>
    obtain⟨bs,W1⟩:=x;rw[hb]at hB;simp only at hB ⊢;have zi:(c.bt W).bt W1=c.bt W1:=rfl;rw[zi]at hB;have q1:aR (cC 9 (Sm.rows bs))=true:=dz;have q2:(cC 9 (Sm.rows bs)).aa=bF bs:=rfl;have q3:=bK q1;have q4:=cm q1;have q5:aR (bF bs)=true:=bN;intro J;have BR:(Sm.mk 6 (cv 6 s.nm) (bI 6 s.on) (bJ 6 s.od) ys bs [] s.a z).aG=[.int .i64 6,.str [],.str [],.int .i64 0,yv,bF bs,.U,.int .i64 s.a,.int .i64 z]:=(by simp[Sm.aG,Sm.rows,cv,bI,bJ,Jb,bF]);show _=some (AV.agg (Sm.mk 6 (cv 6 s.nm) (bI 6 s.on) (bJ 6 s.od) ys bs [] s.a z).aG,_);rw[BR];generalize cC 9 (Sm.rows bs)=mb at *;generalize bF bs=bsv at *;generalize bF s.bd=bv at *;generalize bF s.el=lv at *;generalize (c.bt W).bC=o at *;generalize (c.bt W1).bC=o2 at *;refine an (sf:=mA) rfl rfl rfl ?_;simp[-ax,-ag,mA,ny,en,e1,e2,b1,b2,l1,l2,cG,m1,m2,y1,nE,cS,hB,q1,q2,q5,ah,AV.aa,AV.au,AV.af,aV,bD]
theorem adG(c:CK)(s:Sm)(hf:c.fe=0)(hw:AP c)(eI:c.V.length+Sm.sz s<1000000000)(hk:s.k=7)(h:eu c.sg.ct s.k s.es=true):AN c s:=by
 unfold AN;have hz:=Sm.sY s;have tK:=E.fo s.es;have ny:=λJ=>kP J c s (by omega);rw[h]at ny;have en:=λwl J st=>lz wl J st;have Dc:=λJ=>eE J c s.a [];have nE:=λJ=>cF J c [];rw[decide_eq_true hf]at nE;have qv:c.bt c.V=c:=rfl;have dj:=Sm.aB s;rw[hk]at dj;rw[oR,h];rw[hk]at h ⊢;simp only[if_true];rw[dj]at ny ⊢;have e1:aR (bf s.es)=true:=bP;have e2:(bf s.es).aa=bf s.es:=bS;have b1:aR (bF s.bd)=true:=bN;have b2:(bF s.bd).aa=bF s.bd:=bQ;have l1:aR (bF s.el)=true:=bN;have l2:(bF s.el).aa=bF s.el:=bQ;have cG:=mc c s.es hf (by omega) (λe he=>jH c hf hw e (by have:=E.cR he;omega));have wR:zY c.H c.V 7 s.es=oh c.H c.V s.es:=tO (by decide);have Lz:nQ c.H 7 s.on s.od=some T0:=if_neg (by decide);rw[Lz];simp only;rw[wR];cases hv:oh c.H c.V s.es with
 |error a=>
  rw[hv]at cG;simp only at cG ⊢;intro J;refine⟨c.V,Z9,tQ,?_⟩;rw[qv];obtain⟨v,dw,ev⟩:=cG 1;have FD:=bK dw;have Rh:=cm dw;have kK:=λJ=>cF J (c.fail a) [];rw[decide_eq_false jI]at kK;generalize bf s.es=kv at *;generalize bF s.bd=bv at *;generalize bF s.el=lv at *;generalize (c.fail a).bC=o at *;refine an (sf:=mA) rfl rfl rfl ?_;simp[-ax,-ag,mA,ny,en,e1,e2,b1,b2,l1,l2,ev,dw,kK,ah,AV.aa,AV.au,AV.af,aV,bD]
 |ok ys=>
  rw[hv]at cG;simp only at cG ⊢;have pN:eu c.sg.ct 7 ys=true:=nS hv h;obtain⟨fv,⟨z,rfl,oo⟩,cS⟩:=qF 1 c 7 (cv 7 s.nm) (bI 7 s.on) (bJ 7 s.od) ys s.a T0 hw.s pN;simp only[nT]at oo cS;have mo:(Sm.mk 7 (cv 7 s.nm) (bI 7 s.on) (bJ 7 s.od) ys [] [] s.a 0).aG=[.int .i64 7,.str [],.str [],.int .i64 0,bf ys,.U,.U,.int .i64 s.a,.int .i64 0]:=by simp[Sm.aG,Sm.rows,cv,bI,bJ]
  rw[mo]at cS;have m1:aR (cC 11 (E.rows ys))=true:=dz;have m2:(cC 11 (E.rows ys)).aa=bf ys:=rfl;generalize cC 11 (E.rows ys)=mv at *;have m3:=bK m1;have m4:=cm m1;have y1:aR (bf ys)=true:=bP;have y2:(bf ys).aa=bf ys:=bS;generalize Jb:bf ys=yv at *;generalize bf s.es=kv at *;cases hT:mH c.H c.sg.res c.V 7 s.nm ys T0 with
  |none=>
   simp only;intro J;refine⟨c.V,Z9,tQ,?_⟩;rw[qv];rw[hT]at cS;simp only[Option.isSome_none,mZ]at cS;generalize bF s.bd=bv at *;generalize bF s.el=lv at *;generalize (c.fail s.a).bC=o at *;refine an (sf:=mA) rfl rfl rfl ?_;simp[-ax,-ag,mA,ny,en,e1,e2,b1,b2,l1,l2,cG,m1,m2,nE,cS,Dc,ah,AV.aa,AV.au,AV.af,aV,bD]
  |some x=>
   obtain⟨r,W⟩:=x;have oo:=oo r W hT;subst oo;rw[hT]at cS;simp only[Option.isSome_some,mZ]at cS;have LA:({ c with V:=W }:CK)=c.bt W:=rfl;rw[LA]at cS;simp only[show ¬((7:Int)=5) from by decide,show ¬((7:Int)=6) from by decide,if_false];intro J;have BR:(Sm.mk 7 (cv 7 s.nm) (bI 7 s.on) (bJ 7 s.od) ys [] [] s.a z).aG=[.int .i64 7,.str [],.str [],.int .i64 0,yv,.U,.U,.int .i64 s.a,.int .i64 z]:=(by simp[Sm.aG,Sm.rows,cv,bI,bJ,Jb]);show _=some (AV.agg (Sm.mk 7 (cv 7 s.nm) (bI 7 s.on) (bJ 7 s.od) ys [] [] s.a z).aG,_);rw[BR];generalize bF s.bd=bv at *;generalize bF s.el=lv at *;generalize (c.bt W).bC=o at *;refine an (sf:=mA) rfl rfl rfl ?_;simp[-ax,-ag,mA,ny,en,e1,e2,b1,b2,l1,l2,cG,m1,m2,y1,nE,cS,ah,AV.aa,AV.au,AV.af,aV,bD]
theorem adH(c:CK)(s:Sm)(hf:c.fe=0)(hw:AP c)(eI:c.V.length+Sm.sz s<1000000000)(hk:s.k=8)(h:eu c.sg.ct s.k s.es=true):AN c s:=by
 unfold AN;have hz:=Sm.sY s;have tK:=E.fo s.es;have ny:=λJ=>kP J c s (by omega);rw[h]at ny;have en:=λwl J st=>lz wl J st;have Dc:=λJ=>eE J c s.a [];have nE:=λJ=>cF J c [];rw[decide_eq_true hf]at nE;have qv:c.bt c.V=c:=rfl;have dj:=Sm.aB s;rw[hk]at dj;rw[oR,h];rw[hk]at h ⊢;simp only[if_true];rw[dj]at ny ⊢;have e1:aR (bf s.es)=true:=bP;have e2:(bf s.es).aa=bf s.es:=bS;have b1:aR (bF s.bd)=true:=bN;have b2:(bF s.bd).aa=bF s.bd:=bQ;have l1:aR (bF s.el)=true:=bN;have l2:(bF s.el).aa=bF s.el:=bQ;have cG:=mc c s.es hf (by omega) (λe he=>jH c hf hw e (by have:=E.cR he;omega));have wR:zY c.H c.V 8 s.es=oh c.H c.V s.es:=tO (by decide);have Lz:nQ c.H 8 s.on s.od=some T0:=if_neg (by decide);rw[Lz];simp only;rw[wR];cases hv:oh c.H c.V s.es with
 |error a=>
  rw[hv]at cG;simp only at cG ⊢;intro J;refine⟨c.V,Z9,tQ,?_⟩;rw[qv];obtain⟨v,dw,ev⟩:=cG 1;have FD:=bK dw;have Rh:=cm dw;have kK:=λJ=>cF J (c.fail a) [];rw[decide_eq_false jI]at kK;generalize bf s.es=kv at *;generalize bF s.bd=bv at *;generalize bF s.el=lv at *;generalize (c.fail a).bC=o at *;refine an (sf:=mA) rfl rfl rfl ?_;simp[-ax,-ag,mA,ny,en,e1,e2,b1,b2,l1,l2,ev,dw,kK,ah,AV.aa,AV.au,AV.af,aV,bD]
 |ok ys=>
  rw[hv]at cG;simp only at cG ⊢;have pN:eu c.sg.ct 8 ys=true:=nS hv h;obtain⟨fv,⟨z,rfl,oo⟩,cS⟩:=qF 1 c 8 (cv 8 s.nm) (bI 8 s.on) (bJ 8 s.od) ys s.a T0 hw.s pN;simp only[nT]at oo cS;have mo:(Sm.mk 8 (cv 8 s.nm) (bI 8 s.on) (bJ 8 s.od) ys [] [] s.a 0).aG=[.int .i64 8,.str [],.str [],.int .i64 0,bf ys,.U,.U,.int .i64 s.a,.int .i64 0]:=by simp[Sm.aG,Sm.rows,cv,bI,bJ]
  rw[mo]at cS;have m1:aR (cC 11 (E.rows ys))=true:=dz;have m2:(cC 11 (E.rows ys)).aa=bf ys:=rfl;generalize cC 11 (E.rows ys)=mv at *;have m3:=bK m1;have m4:=cm m1;have y1:aR (bf ys)=true:=bP;have y2:(bf ys).aa=bf ys:=bS;generalize Jb:bf ys=yv at *;generalize bf s.es=kv at *;cases hT:mH c.H c.sg.res c.V 8 s.nm ys T0 with
  |none=>
   simp only;intro J;refine⟨c.V,Z9,tQ,?_⟩;rw[qv];rw[hT]at cS;simp only[Option.isSome_none,mZ]at cS;generalize bF s.bd=bv at *;generalize bF s.el=lv at *;generalize (c.fail s.a).bC=o at *;refine an (sf:=mA) rfl rfl rfl ?_;simp[-ax,-ag,mA,ny,en,e1,e2,b1,b2,l1,l2,cG,m1,m2,nE,cS,Dc,ah,AV.aa,AV.au,AV.af,aV,bD]
  |some x=>
   obtain⟨r,W⟩:=x;have oo:=oo r W hT;subst oo;rw[hT]at cS;simp only[Option.isSome_some,mZ]at cS;have LA:({ c with V:=W }:CK)=c.bt W:=rfl;rw[LA]at cS;simp only[show ¬((8:Int)=5) from by decide,show ¬((8:Int)=6) from by decide,if_false];intro J;have BR:(Sm.mk 8 (cv 8 s.nm) (bI 8 s.on) (bJ 8 s.od) ys [] [] s.a z).aG=[.int .i64 8,.str [],.str [],.int .i64 0,yv,.U,.U,.int .i64 s.a,.int .i64 z]:=(by simp[Sm.aG,Sm.rows,cv,bI,bJ,Jb]);show _=some (AV.agg (Sm.mk 8 (cv 8 s.nm) (bI 8 s.on) (bJ 8 s.od) ys [] [] s.a z).aG,_);rw[BR];generalize bF s.bd=bv at *;generalize bF s.el=lv at *;generalize (c.bt W).bC=o at *;refine an (sf:=mA) rfl rfl rfl ?_;simp[-ax,-ag,mA,ny,en,e1,e2,b1,b2,l1,l2,cG,m1,m2,y1,nE,cS,ah,AV.aa,AV.au,AV.af,aV,bD]
theorem adI(c:CK)(s:Sm)(hf:c.fe=0)(hw:AP c)(eI:c.V.length+Sm.sz s<1000000000)(hk:s.k=9)(h:eu c.sg.ct s.k s.es=true):AN c s:=by
 unfold AN;have hz:=Sm.sY s;have tK:=E.fo s.es;have ny:=λJ=>kP J c s (by omega);rw[h]at ny;have en:=λwl J st=>lz wl J st;have Dc:=λJ=>eE J c s.a [];have nE:=λJ=>cF J c [];rw[decide_eq_true hf]at nE;have qv:c.bt c.V=c:=rfl;have dj:=Sm.aB s;rw[hk]at dj;rw[oR,h];rw[hk]at h ⊢;simp only[if_true];rw[dj]at ny ⊢;have e1:aR (bf s.es)=true:=bP;have e2:(bf s.es).aa=bf s.es:=bS;have b1:aR (bF s.bd)=true:=bN;have b2:(bF s.bd).aa=bF s.bd:=bQ;have l1:aR (bF s.el)=true:=bN;have l2:(bF s.el).aa=bF s.el:=bQ;obtain⟨e,mO,hek⟩:=Nx h;have hze:dg 11 (bf s.es)=true:=mY;have eM:bg (bf s.es)=E.rows s.es:=aZ;have hX:=jH c hf hw e (by have:E.sz e<=E.ey s.es:=E.cR (by rw[mO];exact List.mem_cons_self);omega);unfold AO at hX;have wR:zY c.H c.V 9 s.es=match xM c.H c.V e with|.error x=>.error x|.ok y=>.ok [y]:=by rw[mO];exact UZ
 rw[show E.rows s.es=E.rows [e] from by rw[mO]]at eM;simp only[E.rows,E.aB]at eM;have Lz:nQ c.H 9 s.on s.od=some T0:=if_neg (by decide);rw[Lz];simp only;rw[wR];cases hv:xM c.H c.V e with
 |error a=>
  rw[hv]at hX;simp only at hX ⊢;intro J;refine⟨c.V,Z9,tQ,?_⟩;rw[qv];obtain⟨y,ev⟩:=hX 1;have kK:=λJ=>cF J (c.fail a) [];rw[decide_eq_false jI]at kK;rw[E.aB e,E.aB y]at ev;generalize bf s.es=kv at *;generalize bF s.bd=bv at *;generalize bF s.el=lv at *;generalize (c.fail a).bC=o at *;refine an (sf:=mA) rfl rfl rfl ?_;simp[-ax,-ag,mA,ny,en,e1,e2,b1,b2,l1,l2,hze,eM,bM,ev,kK,ah,AV.aa,AV.au,AV.af,aV,bD]
 |ok y=>
  rw[hv]at hX;simp only at hX ⊢;have pN:eu c.sg.ct 9 [y]=true:=by simp[eu,OU hv,hek]
  obtain⟨fv,⟨z,rfl,oo⟩,cS⟩:=qF 1 c 9 (cv 9 s.nm) (bI 9 s.on) (bJ 9 s.od) [y] s.a T0 hw.s pN;simp only[nT]at oo cS;have mo:(Sm.mk 9 (cv 9 s.nm) (bI 9 s.on) (bJ 9 s.od) [y] [] [] s.a 0).aG=[.int .i64 9,.str [],.str [],.int .i64 0,bf [y],.U,.U,.int .i64 s.a,.int .i64 0]:=by simp[Sm.aG,Sm.rows,cv,bI,bJ]
  rw[mo]at cS;have Jb:bf [y]=.dc 11 [y.aG]:=by simp[bf,E.rows]
  rw[Jb]at cS;rw[E.aB y]at cS hX Jb;rw[E.aB e]at hX;generalize bf s.es=kv at *;cases hT:mH c.H c.sg.res c.V 9 s.nm [y] T0 with
  |none=>
   simp only;intro J;refine⟨c.V,Z9,tQ,?_⟩;rw[qv];rw[hT]at cS;simp only[Option.isSome_none,mZ]at cS;generalize bF s.bd=bv at *;generalize bF s.el=lv at *;generalize (c.fail s.a).bC=o at *;refine an (sf:=mA) rfl rfl rfl ?_;simp[-ax,-ag,mA,ny,en,e1,e2,b1,b2,l1,l2,hze,eM,bM,hX,nE,cS,Dc,ah,AV.aa,AV.au,AV.af,aV,bD]
  |some x=>
   obtain⟨r,W⟩:=x;have oo:=oo r W hT;subst oo;rw[hT]at cS;simp only[Option.isSome_some,mZ]at cS;have LA:({ c with V:=W }:CK)=c.bt W:=rfl;rw[LA]at cS;simp only[show ¬((9:Int)=5) from by decide,show ¬((9:Int)=6) from by decide,if_false];intro J;have BR:(Sm.mk 9 (cv 9 s.nm) (bI 9 s.on) (bJ 9 s.od) [y] [] [] s.a z).aG=[.int .i64 9,.str [],.str [],.int .i64 0,bf [y],.U,.U,.int .i64 s.a,.int .i64 z]:=(by simp[Sm.aG,Sm.rows,cv,bI,bJ]);show _=some (AV.agg (Sm.mk 9 (cv 9 s.nm) (bI 9 s.on) (bJ 9 s.od) [y] [] [] s.a z).aG,_);rw[BR];generalize bF s.bd=bv at *;generalize bF s.el=lv at *;generalize (c.bt W).bC=o at *;refine an (sf:=mA) rfl rfl rfl ?_;simp[-ax,-ag,mA,ny,en,e1,e2,b1,b2,l1,l2,hze,eM,bM,hX,Jb,nE,cS,ah,AV.aa,AV.au,AV.af,aV,bD]
end K9
namespace K9
open Ax Go bX V7 lf mG
theorem YZ{ct:Bool}{k:Int}{es:List E}(h:eu ct k es=true):k=1\/k=2\/k=3\/k=4\/k=5\/k=6\/k=7\/k=8\/k=9:=by
 by_cases h1:k=1;exact .inl h1;by_cases h4:k=4;omega;by_cases h7:k=7;omega;by_cases h9:k=9;omega;unfold eu at h;rw[if_neg h1,if_neg h4,if_neg h7,if_neg h9]at h;split at h;omega;cases h
theorem LB{H:Hd}{ct:Bool}{res:T3}{V:List Vd}{l:List Sm}{k:Nat}(h:k<l.length):kW H ct res V (l.drop k)=match zh H ct res V l[k] with
  |.error x=>.error x|.ok (y,W)=>match kW H ct res W (l.drop (k+1)) with
   |.error x=>.error x|.ok (ys,X)=>.ok (y::ys,X):=by
 rw[List.drop_eq_getElem_cons h];conv=>lhs;unfold kW
 rfl
def Rn(ys:List Sm)(r:Except Int (List Sm×List Vd)):Except Int (List Sm×List Vd):=match r with
 |.error x=>.error x|.ok (zs,X)=>.ok (ys++zs,X)
theorem Ro{H:Hd}{ct:Bool}{res:T3}{V:List Vd}{l:List Sm}{ys:List Sm}{k:Nat}(h:k<l.length):Rn ys (kW H ct res V (l.drop k))=match zh H ct res V l[k] with
  |.error x=>.error x|.ok (y,W)=>Rn (ys++[y]) (kW H ct res W (l.drop (k+1))):=by
 rw[LB h];split
 rfl
 split;rename_i h1;rw[h1];rfl;rename_i h1;rw[h1];simp[Rn]
theorem Jc{l:List Sm}{k:Nat}(h:k<l.length):(Sm.rows l)[k]?=some l[k].aG:=by simp[iw,h]
theorem Dd{l:List Sm}{k:Nat}(h:k<l.length)(h2:k<(Sm.rows l).length):(Sm.rows l)[k]=l[k].aG:=by simp[iw]
theorem LC:∀(l:List Sm)(k:Nat)(h:k<l.length),Sm.ey (l.drop k)=Sm.sz l[k]+Sm.ey (l.drop (k+1)):=by
 intro l k h;rw[List.drop_eq_getElem_cons h];rfl
theorem fM(c:CK)(l:List Sm)(hf:c.fe=0)(hw:AP c)(eI:c.V.length+Sm.ey l<1000000000)
  (hl:∀s∈l,∀d:CK,d.H=c.H->d.sg=c.sg->d.fe=0->AP d->d.V.length+Sm.sz s<1000000000->AN d s):IX c l:=by
 unfold IX;have hz:dg 9 (bF l)=true:=Db;have dw:aR (bF l)=true:=bN;have gn:(bF l).aa=bF l:=bQ;have eM:bg (bF l)=Sm.rows l:=aZ;have hlen:=Sm.fo l;have qi:∀(ys:List Sm) (y:Sm),ys.length<1000000000->x7 9 136 (cC 9 (Sm.rows ys)) [y.aG]=some (cC 9 (Sm.rows (ys++[y]))):=λys y h=>by
  rw[gm (by simp[bV,Sm.aB]) (by simp[dx];omega)];simp[iw]
 have F0:∀(ys:List (List AV)) (y:List AV),y.length=9->ys.length<1000000000->x7 9 136 (cC 9 ys) [y]=some (cC 9 (ys++[y])):=λys y h1 h=>by
  rw[gm (by simp[bV,h1]) (by simp[dx];omega)]
 cases hR:kW c.H c.sg.ct c.sg.res c.V l with
 |ok x=>
  obtain⟨zs,X⟩:=x;intro J;refine an (sf:=s75) rfl rfl rfl ?_;generalize bF l=lv at *;simp[-ax,-ag,s75,dw,gn,eM];refine bu El.eq_1 (λx:Nat×List Sm×List Vd×List AV=>⟨[(0,.val (.ptr 0 0 0 0)),(5,.val (cC 9 (Sm.rows x.2.1))),(8,.val lv),(9,.val (.int .i64 l.length)),(10,.val (.int .i64 x.1))],[x.2.2.2],[(c.bt x.2.2.1).bC]⟩)
   (λx=>x.1<=l.length/\x.2.1.length=x.1/\Rn x.2.1 (kW c.H c.sg.ct c.sg.res x.2.2.1 (l.drop x.1))=.ok (zs,X)/\AP (c.bt x.2.2.1)/\x.2.2.1.length+Sm.ey (l.drop x.1)<1000000000) (λx=>l.length-x.1) (0,[],c.V,[]) rfl ⟨by simp,rfl,by simp[Rn,hR],hw,by simpa using eI⟩ ?_
  rintro⟨k,ys,V,b⟩ ⟨hk,hy,hp,hW,hVs⟩ ih;simp only at hk hy hp hW hVs ih;by_cases bw:k<l.length;have FZ:=wk k (by omega);rw[LC l k bw]at hVs;have hv:=hl l[k] (List.getElem_mem bw) (c.bt V) rfl rfl hf hW (by show V.length+_<_;omega);unfold AN at hv;have Vs:zh (c.bt V).H (c.bt V).sg.ct (c.bt V).sg.res (c.bt V).V l[k]=zh c.H c.sg.ct c.sg.res V l[k]:=rfl;rw[Vs]at hv;rw[Ro bw]at hp;have gE:=Jc bw;have uE:=λh2=>Dd bw h2;have nE:=λJ=>cF J (c.bt V) [];rw[decide_eq_true (show (c.bt V).fe=0 from hf)]at nE;cases hx:zh c.H c.sg.ct c.sg.res V l[k] with
  |error a=>rw[hx]at hp;cases hp|ok x=>
   obtain⟨y,W⟩:=x;rw[hx]at hp hv;simp only at hp hv;obtain⟨w1,w2⟩:=Nw l[k] V y W hW.V hx;have ap:=qi ys y (by omega);have iF:=λb=>ih (k+1,ys++[y],W,b) ⟨by simp only;omega,by simp[hy],hp,Ja (W:=W) hw w1 (by omega),by show W.length+Sm.ey (l.drop (k+1))<1000000000;omega⟩ (by simp only;omega);simp only at iF;have zi:(c.bt V).bt W=c.bt W:=rfl;rw[zi]at hv;generalize (c.bt V).bC=o1 at *;generalize (c.bt W).bC=o2 at *;generalize cC 9 (Sm.rows (ys++[y]))=R at *;rw[Sm.aB l[k]]at hv gE;simp only[Sm.aB l[k]]at uE;rw[Sm.aB y]at hv ap;generalize l[k]=x at *;simp[-ax,-ag,bM,bw,FZ,hz,eM,uE,nE,hv,ap,ah,AV.aa];exact iF _
  have j8:k=l.length:=by omega
  have hh:ys=zs/\V=X:=by
   rw[j8,List.drop_length]at hp;simpa [kW,Rn] using hp
  obtain⟨h1,h2⟩:=hh;subst h1 h2;simp[-ax,-ag,bw]
 |error a=>
  intro J;obtain⟨v,st',h1,W,h2,h3⟩:∃v st',(aT S).call 0 J 75 [.ptr 0 0 0 0,bF l] [c.bC]=some (v,st')/\∃W,aR v=true/\st'=[((c.bt W).fail a).bC]:=by
   refine qE (sf:=s75) rfl rfl rfl ?_;generalize bF l=lv at *;simp[-ax,-ag,s75,dw,gn,eM];refine bu El.eq_1 (λx:Nat×List (List AV)×List Vd×CK×List AV=>⟨[(0,.val (.ptr 0 0 0 0)),(5,.val (cC 9 x.2.1)),(8,.val lv),(9,.val (.int .i64 l.length)),(10,.val (.int .i64 x.1))],[x.2.2.2.2],[x.2.2.2.1.bC]⟩)
    (λx=>x.1<=l.length/\x.2.1.length=x.1/\(x.2.2.2.1=c.bt x.2.2.1/\kW c.H c.sg.ct c.sg.res x.2.2.1 (l.drop x.1)=.error a/\AP (c.bt x.2.2.1)/\x.2.2.1.length+Sm.ey (l.drop x.1)<1000000000\/x.2.2.2.1=(c.bt x.2.2.1).fail a))
    (λx=>l.length-x.1) (0,[],c.V,c,[]) rfl ⟨by simp,rfl,.inl ⟨rfl,by simpa using hR,hw,by simpa using eI⟩⟩ ?_
   rintro⟨k,ys,V,d,b⟩ ⟨hk,hy,hp⟩ ih;simp only at hk hy hp ih;by_cases bw:k<l.length;have FZ:=wk k (by omega);have gE:=Jc bw;have uE:=λh2=>Dd bw h2;rcases hp with⟨hd,hp,hW,hVs⟩|hd;subst hd;rw[LC l k bw]at hVs;have hv:=hl l[k] (List.getElem_mem bw) (c.bt V) rfl rfl hf hW (by show V.length+_<_;omega);unfold AN at hv;have Vs:zh (c.bt V).H (c.bt V).sg.ct (c.bt V).sg.res (c.bt V).V l[k]=zh c.H c.sg.ct c.sg.res V l[k]:=rfl;rw[Vs]at hv;rw[LB bw]at hp;have nE:=λJ=>cF J (c.bt V) [];rw[decide_eq_true (show (c.bt V).fe=0 from hf)]at nE;cases hx:zh c.H c.sg.ct c.sg.res V l[k] with
   |error a'=>
    rw[hx]at hp hv;simp only at hp hv;cases hp;obtain⟨W,aG,⟨rk,rnm,ron,rod,res,rbd,rel,ra,adJ,rfl,q1,q2,q3⟩,hv⟩:=hv 1;have zi:(c.bt V).bt W=c.bt W:=rfl;rw[zi]at hv;have ap:=F0 ys [.int .i64 rk,.str rnm,.str ron,.int .i64 rod,res.aa,rbd.aa,rel.aa,.int .i64 ra,.int .i64 adJ] rfl (by omega);have iF:=λb=>ih (k+1,ys++[[.int .i64 rk,.str rnm,.str ron,.int .i64 rod,res.aa,rbd.aa,rel.aa,.int .i64 ra,.int .i64 adJ]],W,(c.bt W).fail a,b) ⟨by simp only;omega,by simp[hy],.inr rfl⟩ (by simp only;omega);simp only at iF;generalize (c.bt V).bC=o1 at *;generalize ((c.bt W).fail a).bC=o2 at *;generalize cC 9 (ys++[[.int .i64 rk,.str rnm,.str ron,.int .i64 rod,res.aa,rbd.aa,rel.aa,.int .i64 ra,.int .i64 adJ]])=R at *;rw[Sm.aB l[k]]at hv gE;simp only[Sm.aB l[k]]at uE;generalize l[k]=x at *;simp[-ax,-ag,bM,bw,FZ,hz,eM,uE,nE,hv,ap,q1,q2,q3,ah,AV.aa];exact iF _
   |ok x=>
    obtain⟨y,W⟩:=x;rw[hx]at hp hv;simp only at hp hv;obtain⟨w1,w2⟩:=Nw l[k] V y W hW.V hx;have yu:kW c.H c.sg.ct c.sg.res W (l.drop (k+1))=.error a:=by
     split at hp;rename_i h;cases hp;exact h;cases hp
    have ap:=F0 ys y.aG (by rw[Sm.aB];rfl) (by omega);have iF:=λb=>ih (k+1,ys++[y.aG],W,c.bt W,b) ⟨by simp only;omega,by simp[hy],.inl ⟨rfl,yu,Ja (W:=W) hw w1 (by omega),by show W.length+Sm.ey (l.drop (k+1))<1000000000;omega⟩⟩ (by simp only;omega);simp only at iF;have zi:(c.bt V).bt W=c.bt W:=rfl;rw[zi]at hv;generalize (c.bt V).bC=o1 at *;generalize (c.bt W).bC=o2 at *;generalize cC 9 (ys++[y.aG])=R at *;rw[Sm.aB l[k]]at hv gE;simp only[Sm.aB l[k]]at uE;rw[Sm.aB y]at hv ap;generalize l[k]=x at *;simp[-ax,-ag,bM,bw,FZ,hz,eM,uE,nE,hv,ap,ah,AV.aa];exact iF _
   subst hd;have kK:=λJ=>cF J ((c.bt V).fail a) [];rw[decide_eq_false jI]at kK;simp only[Sm.aB l[k]]at uE;rw[Sm.aB l[k]]at gE;have hex:∃W,((c.bt V).fail a).bC=((c.bt W).fail a).bC:=⟨V,rfl⟩;generalize ((c.bt V).fail a).bC=o2 at *;generalize l[k]=x at *;simp[-ax,-ag,bM,bw,hz,eM,uE,kK,hex,ah,AV.aa];have j8:k=l.length:=(by omega);rcases hp with⟨hd,hp,_⟩|hd;rw[j8,List.drop_length]at hp;simp[kW]at hp;subst hd;have hex:∃W,((c.bt V).fail a).bC=((c.bt W).fail a).bC:=⟨V,rfl⟩;generalize ((c.bt V).fail a).bC=o2 at *;simp[-ax,-ag,bw,hex]
  rw[h3]at h1;exact⟨W,v,h2,h1⟩
theorem ta(s:Sm):∀c:CK,c.fe=0->AP c->c.V.length+Sm.sz s<1000000000->AN c s:=by
 induction s using Sm.xN with
 |_ s C8 nB=>
  intro c hf hw eI;have hz:=Sm.sY s;have tK:=E.fo s.es;cases h:eu c.sg.ct s.k s.es with
  |false=>exact adz c s (by omega) h|true=>
   have NF:∀d:CK,d.H=c.H->d.sg=c.sg->d.fe=0->AP d->d.V.length+Sm.ey s.bd<1000000000->IX d s.bd:=λd _ _ h1 h2 h3=>
    fM d s.bd h1 h2 h3 λx hx e _ _ g1 g2 g3=>C8 x hx e g1 g2 g3
   have Rm:∀d:CK,d.H=c.H->d.sg=c.sg->d.fe=0->AP d->d.V.length+Sm.ey s.el<1000000000->IX d s.el:=λd _ _ h1 h2 h3=>
    fM d s.el h1 h2 h3 λx hx e _ _ g1 g2 g3=>nB x hx e g1 g2 g3
   rcases YZ h with k|k|k|k|k|k|k|k|k;exact adA c s hf hw eI k h;exact adB c s hf hw eI k h;exact adC c s hf hw eI k h;exact adD c s hf hw eI k h;exact adE c s hf hw eI k h NF Rm;exact adF c s hf hw eI k h NF;exact adG c s hf hw eI k h;exact adH c s hf hw eI k h;exact adI c s hf hw eI k h
theorem I5(c:CK)(l:List Sm)(hf:c.fe=0)(hw:AP c)(eI:c.V.length+Sm.ey l<1000000000):IX c l:=
 fM c l hf hw eI λs _ d _ _ h1 h2 h3=>ta s d h1 h2 h3
end K9
namespace K9
open Ax Go bX V7 lf mG
theorem EW(wl J:Nat)(l:List Vd)(st:ai)(hn:l.length<1000000000):(aT S).call wl J 74 [cM l] st=some (cC 4 (l.map Vd.aG),st):=by
 refine bn (sf:=s74) rfl rfl (by simp[AV.af]) rfl (by simp) ?_;cases l with
 |nil=>simp[s74,cM,o8,Ga]|cons v l=>
  have hv:cM (v::l)=.dc 4 ((v::l).map Vd.aG):=rfl;have qi:=gm (sz:=4) (bytes:=40) (r:=[]) (new:=(v::l).map Vd.aG) (by simp[bV,Vd.aG]) (by simp[dx]at hn ⊢;omega);rw[hv];simp only[List.nil_append]at qi;have hm:cC 4 ((v::l).map Vd.aG)=.lA 4 ((v::l).map Vd.aG):=rfl;rw[hm]at qi ⊢;have AW:x7 4 40 .lU ((v::l).map Vd.aG)=some (.lA 4 ((v::l).map Vd.aG)):=by
   simp[x7,bV,Vd.aG,dx]at hn ⊢;omega
  generalize (v::l).map Vd.aG=R at *;simp[s74,AW,Ga]
def CK.nC(c:CK)(g:Sg):CK:={ c with sg:=g,V:=g.ps }
theorem adK{c:CK}{a:Int}:(c.fail a).V=c.V:=by unfold CK.fail;split<;>rfl
theorem Y0(c:CK)(f:Fc)(g:Sg)(hf:c.fe=0)(hw:AP (c.nC g))(eI:g.ps.length+Sm.ey f.body<1000000000):match kW c.H g.ct g.res g.ps f.body with
  |.ok (ys,W)=>∀J,(aT S).call 0 J 45 [.ptr 0 0 0 0,.agg f.aG,.agg g.aG] [c.bC]=some (.agg [cM W,cC 9 (Sm.rows ys),.int .i64 f.a],[((c.nC g).bt W).bC])|.error a=>∀J,∃W v,aR v=true/\(aT S).call 0 J 45 [.ptr 0 0 0 0,.agg f.aG,.agg g.aG] [c.bC]=some (.agg [cM W,v,.int .i64 f.a],[(((c.nC g).bt W).fail a).bC]):=by
 have hB:=I5 (c.nC g) f.body hf hw eI;unfold IX at hB;have Vs:kW (c.nC g).H (c.nC g).sg.ct (c.nC g).sg.res (c.nC g).V f.body=kW c.H g.ct g.res g.ps f.body:=rfl;rw[Vs]at hB;have hV:=hw.s.V;have ec:=λwl J st=>EW wl J g.ps st (by exact hV);have h1:∀J bx,aP 0 J (.store 6) [.val (.ptr 0 0 0 5),.val (.agg g.aG)] [c.bC] bx=some (.none,[({ c with sg:=g }:CK).bC],bx):=λJ bx=>by
  simp[CK.bC,Sg.aG,bq,AV.af,AV.au,ah]
 have h2:∀J bx,aP 0 J (.store 1) [.val (.ptr 0 0 0 11),.val (cC 4 (g.ps.map Vd.aG))] [({ c with sg:=g }:CK).bC] bx=some (.none,[(c.nC g).bC],bx):=λJ bx=>by
  simp[CK.bC,CK.nC,bq,AV.af,ah]
 generalize ({ c with sg:=g }:CK).bC=o1 at *;have g1:aR (cC 4 (g.ps.map Vd.aG))=true:=dz;generalize cC 4 (g.ps.map Vd.aG)=mg at *;have g3:=bK g1;have g4:=cm g1;have p1:aR (cM g.ps)=true:=ig;have p2:(cM g.ps).aa=cM g.ps:=iQ;have q1:aR (bF f.body)=true:=bN;have q2:(bF f.body).aa=bF f.body:=bQ;simp only[Sg.aG]at h1 ⊢;simp only[Fc.aG];cases hR:kW c.H g.ct g.res g.ps f.body with
 |ok x=>
  obtain⟨ys,W⟩:=x;rw[hR]at hB;simp only at hB ⊢;intro J;have ev:=λwl J bx=>Ls (wl:=wl) (J:=J) (c:=(c.nC g).bt W) (r:=[]) (bx:=bx);have hVW:((c.nC g).bt W).V=W:=rfl;rw[hVW]at ev;generalize ((c.nC g).bt W).bC=o3 at *;generalize (c.nC g).bC=o2 at *;have y1:aR (cC 9 (Sm.rows ys))=true:=dz;have y2:(cC 9 (Sm.rows ys)).aa=bF ys:=rfl;have y3:=bK y1;have y4:=cm y1;generalize cC 9 (Sm.rows ys)=my at *;have w1:aR (cM W)=true:=ig;have w2:(cM W).aa=cM W:=iQ;generalize cM W=fw at *;generalize cM g.ps=fg at *;generalize bF f.body=fb at *;refine an (sf:=s45) rfl rfl rfl ?_;simp[-ax,-ag,s45,ec,h1,h2,hB,ev,p1,p2,q1,q2,w1,y1,ah,AV.aa,AV.au,AV.af,aF,aC]
 |error a=>
  rw[hR]at hB;simp only at hB ⊢;intro J;obtain⟨W,v,v1,hB⟩:=hB 1;refine⟨W,v,v1,?_⟩;have ev:=λwl J bx=>Ls (wl:=wl) (J:=J) (c:=((c.nC g).bt W).fail a) (r:=[]) (bx:=bx);have hVW:(((c.nC g).bt W).fail a).V=W:=adK;rw[hVW]at ev;generalize (((c.nC g).bt W).fail a).bC=o3 at *;generalize (c.nC g).bC=o2 at *;have v3:=bK v1;have v4:=cm v1;have v5:aR v.aa=true:=by rw[ug];exact v1
  have w1:aR (cM W)=true:=ig;have w2:(cM W).aa=cM W:=iQ;generalize cM W=fw at *;generalize cM g.ps=fg at *;generalize bF f.body=fb at *;refine an (sf:=s45) rfl rfl rfl ?_;simp[-ax,-ag,s45,ec,h1,h2,hB,ev,p1,p2,q1,q2,w1,v1,ah,AV.aa,AV.au,AV.af,aF,aC]
open N7 U7 in
theorem Jd(p:Pg):kq (dJ (jX p).bz)=cz p:=by
 rw[tc];simp[kq,cz,qb]
def td(H:Hd)(m:Int):List AV:=[aK 2 (H.bZ.map gV),cM H.aH,aK 6 (H.cu.map Sg.aG),.int .i64 m]
theorem wS(rs:List (List UInt8))(l:List PD):iL rs l=(mq rs l).map Vd.aG:=by
 simp only[iL,mq,List.map_map];exact List.map_congr_left λq _=>rfl
open N7 U7 in
def eP(p:Pg):Int:=rP (jz (jX p).funcs)
open N7 U7 in
theorem Vt(p:Pg):EN (jX p)=.agg (td (aU p) (eP p)):=by
 unfold EN td eP;have h1:pA (kq (dJ (jX p).bz)) (dJ (jX p).bz)=(aU p).bZ.map gV:=by
  rw[Jd,tc];simp only[pA,aU,List.map_map];exact List.map_congr_left λr _=>by simp only[Function.comp,IV,qb,l9,gV,wS];rfl
 have h2:iL (kq (dJ (jX p).bz)) (og (jX p).aH)=(aU p).aH.map Vd.aG:=by
  rw[Jd,ET,wS];rfl
 have h3:ja (kq (dJ (jX p).bz)) (jz (jX p).funcs)=(aU p).cu.map Sg.aG:=by
  rw[Jd,nV];simp only[ja,aU,List.map_map];refine List.map_congr_left λf _=>?_;simp only[Function.comp,jg,qD,l9,Sg.aG,FU,U7.p8,wS];obtain⟨n,ps,ct,on,od,body,a⟩:=f;cases ct<;>rfl
 rw[h1,h2,h3]
 rfl
theorem Vu(p:Pg):(aU p).ok:=by
 refine⟨by simp[aU,cz],?_,?_,?_⟩;intro s hs f hf;simp only[aU]at hs;obtain⟨r,_,rfl⟩:=List.mem_map.1 hs;simp only[mq]at hf;obtain⟨q,_,rfl⟩:=List.mem_map.1 hf;exact pz _ _ _;intro f hf;simp only[aU,mq]at hf;obtain⟨q,_,rfl⟩:=List.mem_map.1 hf;exact pz _ _ _;intro s hs;simp only[aU]at hs;obtain⟨r,_,rfl⟩:=List.mem_map.1 hs;refine⟨?_,λf hf=>?_⟩;simp only[FU];split;exact pz _ _ _;exact UW;simp only[FU,mq]at hf;obtain⟨q,_,rfl⟩:=List.mem_map.1 hf;exact pz _ _ _
abbrev Z5:AV:=.agg [.U,.U,.U,.int .i64 0,.U]
def Je(H:Hd)(m:Int)(r:Except Int (List Bd)):AV:=match r with
 |.error a=>.fF [Z5,.agg [.int .i64 3,.int .i64 a]]|.ok l=>.fF [.agg (td H m++[aK 3 (l.map Bd.aG)]),.agg [.int .i64 0,.int .i64 0]]
open N7 U7 in
def Bm(p:Pg):AV:=match lO (jX p) with
 |some a=>.fF [Z5,.agg [.int .i64 3,.int .i64 a]]|none=>Je (aU p) (eP p) (pM (aU p) (aU p).cu p.funcs)
def Rq(bs:List Bd)(r:Except Int (List Bd)):Except Int (List Bd):=match r with
 |.error x=>.error x|.ok zs=>.ok (bs++zs)
theorem Vv{H:Hd}{ss:List Sg}{fs:List Fc}{bs:List Bd}{k:Nat}(h:k<ss.length)(h2:k<fs.length):Rq bs (pM H (ss.drop k) (fs.drop k))=match kW H ss[k].ct ss[k].res ss[k].ps fs[k].body with
  |.error x=>.error x|.ok (c,W)=>Rq (bs++[⟨W,c,fs[k].a⟩]) (pM H (ss.drop (k+1)) (fs.drop (k+1))):=by
 rw[List.drop_eq_getElem_cons h,List.drop_eq_getElem_cons h2];conv=>lhs;arg 2;unfold pM
 cases kW H ss[k].ct ss[k].res ss[k].ps fs[k].body with
 |error x=>rfl|ok x=>
  obtain⟨c,W⟩:=x;simp only;cases pM H (List.drop (k+1) ss) (List.drop (k+1) fs) with
  |error x=>rfl|ok x=>simp[Rq]
def CK.Vw(c:CK)(w:AV):fq:=.rows 0 14 [[aK 2 (c.H.bZ.map gV),cM c.H.aH,aK 6 (c.H.cu.map Sg.aG),.int .i64 c.main,w,.str c.sg.nm,cM c.sg.ps,.bool c.sg.ct,.int .i64 c.sg.res.b,.int .i64 c.sg.res.r,.int .i64 c.sg.res.d,cC 4 (c.V.map Vd.aG),.int .i64 c.fe,.int .i64 c.fa]]
def CK.adL(c:CK)(R:List (List UInt8)):CK:={ c with H:={ c.H with rs:=R } }
theorem Y1{J:Nat}{c:CK}{bx:aX}:aP 0 J (.load false 1 true) [.val (.ptr 0 0 0 4)] [c.bC] bx=some (.val (cC 1 (iB c.H.rs)),[c.Vw (cC 1 (iB c.H.rs)).kQ],bx):=by
 simp only[CK.bC,CK.Vw];generalize iB c.H.rs=rows;cases rows with
 |nil=>simp[aP,cC,cut,jD,fV,bq,AV.kQ,AV.au,AV.af,ah,ck]|cons a l=>simp[aP,cC,cut,jD,fV,bq,AV.kQ,AV.au,AV.af,ah,ck]
theorem adM{J:Nat}{c:CK}{w:AV}{R:List (List UInt8)}{bx:aX}:aP 0 J (.store 1) [.val (.ptr 0 0 0 4),.val (cC 1 (iB R))] [c.Vw w] bx=some (.none,[(c.adL R).bC],bx):=by
 simp[CK.bC,CK.Vw,CK.adL,bq,AV.af,ah]
theorem adN{wl J:Nat}{c:CK}{r:ai}{bx:aX}:aP wl J (.load true 2 false) [.val (.ptr 0 0 0 12)] (c.bC::r) bx=some (.val (.agg [.int .i64 c.fe,.int .i64 c.fa]),c.bC::r,bx):=by
 simp[CK.bC,cut,AV.aa]
def Y2:Sg:=⟨[],[],false,T0⟩
def Pd(H:Hd)(m:Int)(R:List (List UInt8)):CK:=⟨{ H with rs:=R },m,Y2,[],0,0⟩
theorem Y3{l:List Rc}{k:Nat}(h:k<l.length):(l.map Rc.aG)[k]?=some [.str l[k].name,aK 4 (l[k].bH.map PD.cells),.int .i64 l[k].a]:=by simp[h,Rc.aG]
theorem adO{l:List Fc}{k:Nat}(h:k<l.length):(l.map Fc.aG)[k]?=some [.str l[k].name,aK 4 (l[k].params.map PD.cells),.bool l[k].ct,.str l[k].on,.int .i64 l[k].od,bF l[k].body,.int .i64 l[k].a]:=by simp[h,Fc.aG]
theorem Rr(H:Hd)(m:Int)(r:Except Int (List Bd)):(Je H m r).au=true:=by
 cases r<;>simp[Je,td,AV.au,AV.af]
theorem LD(p:Pg):(Bm p).au=true:=by
 unfold Bm;split;simp[AV.au,AV.af];exact Rr _ _ _
open N7 U7 in
theorem LF(wl J:Nat)(p:Pg)(st:ai)(hg:(jX p).ok)(HZ:GD.sm (jX p))(eI:∀f∈p.funcs,f.params.length+Sm.ey f.body<1000000000) :
  (aT S).call wl J 27 [.agg p.aG] st=some (Bm p,st):=by
 have em:∀wl J st,(aT S).call wl J 44 [.agg p.aG] st=some (Va (jX p),st):=λwl J st=>YQ wl J (jX p) st hg HZ;refine bn (sf:=s27) rfl rfl (by simp[Pg.aG,AV.af,AV.au]) rfl (LD p) ?_;unfold Bm;unfold Va at em;cases hF:lO (jX p) with
 |some a=>
  rw[hF]at em;simp only[Lp,fE,fX,Pg.aG]at em ⊢;simp[-ax,-ag,s27,em,ah,AV.aa,aF,aC]
 |none=>
  rw[hF,Vt]at em;simp only[fE,fX,Pg.aG,td]at em ⊢;have hr0:(Pd (aU p) (eP p) []).bC=.rows 0 14 [[aK 2 ((aU p).bZ.map gV),cM (aU p).aH,aK 6 ((aU p).cu.map Sg.aG),.int .i64 (eP p),.U,.str [],.U,.bool false,.int .i64 0,.int .i64 0,.int .i64 0,.U,.int .i64 0,.int .i64 0]]:=by
   simp[CK.bC,Pd,Y2,iB,o8,cM]
  have vO:∀wl J bx,aP wl J (.box 14) [.val (.agg [aK 2 ((aU p).bZ.map gV),cM (aU p).aH,aK 6 ((aU p).cu.map Sg.aG),.int .i64 (eP p),.U,.str [],.U,.bool false,.int .i64 0,.int .i64 0,.int .i64 0,.U,.int .i64 0,.int .i64 0])] [] bx =
    some (.val (.ptr 0 0 0 0),[(Pd (aU p) (eP p) []).bC],bx):=λwl J bx=>by rw[hr0];simp
  have t1:aR (aK 2 ((aU p).bZ.map gV))=true:=bL;have t2:(aK 2 ((aU p).bZ.map gV)).aa=aK 2 ((aU p).bZ.map gV):=bO;have t3:aR (aK 6 ((aU p).cu.map Sg.aG))=true:=bL;have t4:(aK 6 ((aU p).cu.map Sg.aG)).aa=aK 6 ((aU p).cu.map Sg.aG):=bO;have t5:dg 6 (aK 6 ((aU p).cu.map Sg.aG))=true:=fZ (by simp[bV,Sg.aG]);have t6:bg (aK 6 ((aU p).cu.map Sg.aG))=(aU p).cu.map Sg.aG:=aZ;have r1:aR (aK 3 (p.bz.map Rc.aG))=true:=bL;have r2:(aK 3 (p.bz.map Rc.aG)).aa=aK 3 (p.bz.map Rc.aG):=bO;have r3:dg 3 (aK 3 (p.bz.map Rc.aG))=true:=fZ (by simp[bV,Rc.aG]);have r4:bg (aK 3 (p.bz.map Rc.aG))=p.bz.map Rc.aG:=aZ;have f1:aR (aK 7 (p.funcs.map Fc.aG))=true:=bL;have f2:(aK 7 (p.funcs.map Fc.aG)).aa=aK 7 (p.funcs.map Fc.aG):=bO;have f3:dg 7 (aK 7 (p.funcs.map Fc.aG))=true:=fZ (by simp[bV,Fc.aG]);have f4:bg (aK 7 (p.funcs.map Fc.aG))=p.funcs.map Fc.aG:=aZ;have g1:aR (aK 4 (p.aH.map PD.cells))=true:=bL;have g2:(aK 4 (p.aH.map PD.cells)).aa=aK 4 (p.aH.map PD.cells):=bO;generalize hHS:aK 2 ((aU p).bZ.map gV)=HS at *;generalize hHG:aK 6 ((aU p).cu.map Sg.aG)=HG at *;generalize aK 3 (p.bz.map Rc.aG)=PR at *;generalize aK 7 (p.funcs.map Fc.aG)=PF at *;generalize aK 4 (p.aH.map PD.cells)=PG at *;simp[-ax,-ag,-OA,s27,em,vO,t1,t2,t3,t4,r1,r2,r4,f1,f2,g1,g2,ah,AV.aa];have Mk:(cz p).length=p.bz.length:=by simp[cz]
  have hrn:p.bz.length<1000000000:=by have:=HZ.bz;rw[tc,List.length_map]at this;exact this
  have Mo:p.funcs.length<1000000000:=by have:=HZ.funcs;rw[nV,List.length_map]at this;exact this
  have hHr:(Pd (aU p) (eP p) (cz p)).H=aU p:=rfl;generalize hGL:cM (aU p).aH=GL at *;have gl1:aR GL=true:=by rw[<-hGL];exact ig
  have gl2:GL.aa=GL:=by rw[<-hGL];exact iQ
  refine bu TW.eq_1 (λx:Nat×List AV=>⟨[(1,.fp 0 0),(2,.fp 1 0),(3,.fp 2 0),(4,.fp 3 0),(6,.val (.ptr 0 0 0 0)),(26,.val PR),(27,.val (.int .i64 p.bz.length)),(28,.val (.int .i64 x.1))],
   [[PR,PG,PF],[.U,.U,.U,.int .i64 0,.U],[.int .i64 0,.int .i64 0],[HS,GL,HG,.int .i64 (eP p)],[.int .i64 0,.int .i64 0],x.2,[],[]],[(Pd (aU p) (eP p) ((cz p).take x.1)).bC]⟩)
   (λx=>x.1<=p.bz.length) (λx=>p.bz.length-x.1) (0,[]) (by simp) (by simp) ?_
  rintro⟨k,b⟩ hk ih;simp only at hk ih;by_cases bw:k<p.bz.length;have FZ:=wk k (by omega);have gR:=Y3 bw;have gR':∀h:k<(p.bz.map Rc.aG).length,(p.bz.map Rc.aG)[k]=[.str p.bz[k].name,aK 4 (p.bz[k].bH.map PD.cells),.int .i64 p.bz[k].a]:=λh=>by simp[Rc.aG]
  have qi:=gm (sz:=1) (bytes:=16) (r:=iB ((cz p).take k)) (new:=[[.str p.bz[k].name]]) (by simp[bV]) (by simp[dx,iB];omega);have hrw:iB ((cz p).take k)++[[.str p.bz[k].name]]=iB ((cz p).take (k+1)):=by
   rw[List.take_succ_eq_append_getElem (by rw[Mk];exact bw)];simp[iB,cz]
  rw[hrw]at qi;have et:=λJ bx=>Y1 (J:=J) (c:=Pd (aU p) (eP p) ((cz p).take k)) (bx:=bx);have ep:=λJ bx=>adM (J:=J) (c:=Pd (aU p) (eP p) ((cz p).take k)) (w:=(cC 1 (iB ((cz p).take k))).kQ) (R:=(cz p).take (k+1)) (bx:=bx);have Mi:(Pd (aU p) (eP p) ((cz p).take k)).adL ((cz p).take (k+1))=Pd (aU p) (eP p) ((cz p).take (k+1)):=rfl;rw[Mi]at ep;have Wy:(Pd (aU p) (eP p) ((cz p).take k)).H.rs=(cz p).take k:=rfl;rw[Wy]at et;have iF:=λb=>ih (k+1,b) (by simp only;omega) (by simp only;omega);simp only at iF;generalize (Pd (aU p) (eP p) ((cz p).take (k+1))).bC=o1 at *;generalize (Pd (aU p) (eP p) ((cz p).take k)).Vw (cC 1 (iB ((cz p).take k))).kQ=o2 at *;generalize (Pd (aU p) (eP p) ((cz p).take k)).bC=o3 at *;generalize cC 1 (iB ((cz p).take (k+1)))=m1 at *;generalize cC 1 (iB ((cz p).take k))=m2 at *;generalize p.bz[k]=rc at *;simp[-ax,-ag,bM,bw,FZ,r3,r4,gR',et,ep,qi,ah,AV.aa,aF,aC];exact iF _;have j8:k=p.bz.length:=by omega
  subst j8;have CD:(cz p).take p.bz.length=cz p:=by rw[<-Mk,List.take_length]
  rw[CD];simp[-ax,-ag,t1,t2,t3,t4,f1,f2,f4,gl1,gl2,ah,AV.aa];have dw:(aU p).cu.length=p.funcs.length:=by simp[aU]
  have am5:∀(d:CK) (g:Sg),d.H=aU p->g∈(aU p).cu->AP (d.nC g):=λd g hd hg'=>by
   have XD:=Vu p;have Od:(aU p).aH.length<1000000000:=(by have:=HZ.aH;rw[ET]at this;simpa [aU,mq] using this);have hF:∀s∈(aU p).bZ,s.2.length<1000000000:=λs hs=>by
    obtain⟨r,hr,rfl⟩:=List.mem_map.1 hs;have:=HZ.bH (qb r) (by rw[tc];exact List.mem_map_of_mem hr);simpa [qb,l9,mq] using this
   have hP:∀s∈(aU p).cu,s.ps.length<1000000000:=λs hs=>by
    obtain⟨r,hr,rfl⟩:=List.mem_map.1 hs;have:=HZ.params (qD r) (by rw[nV];exact List.mem_map_of_mem hr);simpa [qD,l9,FU,mq] using this
   refine⟨⟨hP g hg',?_,?_,?_,?_,?_⟩,?_,?_⟩;show d.H.aH.length<_;rw[hd];exact Od;show d.H.cu.length<_;rw[hd,dw];exact Mo;show d.H.rs.length<_;rw[hd];show (cz p).length<_;rw[Mk];exact hrn;show ∀s∈d.H.bZ,_;rw[hd];exact hF;show ∀s∈d.H.cu,_;rw[hd];exact hP;show d.H.ok;rw[hd];exact XD;show ∀f∈g.ps,WT d.H.rs.length f.ty;rw[hd];exact(XD.cu g hg').2
  refine bu TX.eq_1 (λx:Nat×List Bd×CK×List AV=>⟨[(2,.fp 1 0),(3,.fp 2 0),(4,.fp 3 0),(6,.val (.ptr 0 0 0 0)),(9,.fp 6 0),(47,.val PF),(48,.val (.int .i64 p.funcs.length)),(49,.val (.int .i64 x.1))],
   [[PR,PG,PF],[.U,.U,.U,.int .i64 0,.U],[.int .i64 0,.int .i64 0],[HS,GL,HG,.int .i64 (eP p)],[.int .i64 0,.int .i64 0],b,[HS,GL,HG,.int .i64 (eP p),cC 3 (x.2.1.map Bd.aG)],x.2.2.2],[x.2.2.1.bC]⟩)
   (λx=>x.1<=p.funcs.length/\x.2.1.length=x.1/\x.2.2.1.H=aU p/\x.2.2.1.fe=0/\Rq x.2.1 (pM (aU p) ((aU p).cu.drop x.1) (p.funcs.drop x.1))=pM (aU p) (aU p).cu p.funcs)
   (λx=>p.funcs.length-x.1) (0,[],Pd (aU p) (eP p) (cz p),[]) (by simp[o8]) ⟨by simp,rfl,rfl,rfl,by simp[Rq];split<;>rename_i h<;>exact h.symm⟩ ?_
  rintro⟨k,bs,d,b7⟩ ⟨hk,hbs,hd,hdf,hp⟩ ih;simp only at hk hbs hd hdf hp ih;by_cases ya:k<p.funcs.length;have tT:k<(aU p).cu.length:=by omega
  have FZ:=wk k (by omega);have gF:=adO ya;have gF':∀h:k<(p.funcs.map Fc.aG).length,(p.funcs.map Fc.aG)[k]=[.str p.funcs[k].name,aK 4 (p.funcs[k].params.map PD.cells),.bool p.funcs[k].ct,.str p.funcs[k].on,.int .i64 p.funcs[k].od,bF p.funcs[k].body,.int .i64 p.funcs[k].a]:=λh=>by simp[Fc.aG]
  have gS:((aU p).cu.map Sg.aG)[k]?=some [.str (aU p).cu[k].nm,cM (aU p).cu[k].ps,.bool (aU p).cu[k].ct,.int .i64 (aU p).cu[k].res.b,.int .i64 (aU p).cu[k].res.r,.int .i64 (aU p).cu[k].res.d]:=by simp[tT,Sg.aG]
  have YV:∀h:k<((aU p).cu.map Sg.aG).length,((aU p).cu.map Sg.aG)[k]=[.str (aU p).cu[k].nm,cM (aU p).cu[k].ps,.bool (aU p).cu[k].ct,.int .i64 (aU p).cu[k].res.b,.int .i64 (aU p).cu[k].res.r,.int .i64 (aU p).cu[k].res.d]:=λh=>by simp[Sg.aG]
  rw[Vv tT ya]at hp;have XC:(aU p).cu[k].ps.length=p.funcs[k].params.length:=by simp[aU,FU,mq]
  have hB:=Y0 d p.funcs[k] (aU p).cu[k] hdf (am5 d _ hd (List.getElem_mem tT)) (by rw[XC];exact eI _ (List.getElem_mem ya));rw[hd]at hB;have qi:∀cs:List AV,cs.length=3->x7 3 56 (cC 3 (bs.map Bd.aG)) [cs]=some (cC 3 (bs.map Bd.aG++[cs])):=λcs hc=>gm (by simp[bV,hc]) (by simp[dx];omega);have ps1:aR (aK 4 (p.funcs[k].params.map PD.cells))=true:=bL;have ps2:(aK 4 (p.funcs[k].params.map PD.cells)).aa=aK 4 (p.funcs[k].params.map PD.cells):=bO;have bd1:aR (bF p.funcs[k].body)=true:=bN;have bd2:(bF p.funcs[k].body).aa=bF p.funcs[k].body:=bQ;have sp1:aR (cM (aU p).cu[k].ps)=true:=ig;have sp2:(cM (aU p).cu[k].ps).aa=cM (aU p).cu[k].ps:=iQ;simp only[Fc.aG,Sg.aG]at hB;generalize hrS:(aU p).cu.map Sg.aG=RS at *;generalize hrF:p.funcs.map Fc.aG=RF at *;have Vx:k<RS.length:=by rw[<-hrS,List.length_map];exact tT
  have adP:k<RF.length:=by rw[<-hrF,List.length_map];exact ya
  have Y4:=YV Vx;have aib:=gF' adP;clear YV gF';cases hR:kW (aU p) (aU p).cu[k].ct (aU p).cu[k].res (aU p).cu[k].ps p.funcs[k].body with
  |error a=>
   rw[hR]at hp hB;simp only at hp hB;obtain⟨W,v,v1,hB⟩:=hB 0;have JS:(((d.nC (aU p).cu[k]).bt W).fail a).fe=3/\(((d.nC (aU p).cu[k]).bt W).fail a).fa=a:=by
    have:((d.nC (aU p).cu[k]).bt W).fe=0:=hdf;unfold CK.fail;rw[if_pos this];exact⟨rfl,rfl⟩
   have nE:=λJ=>cF J (((d.nC (aU p).cu[k]).bt W).fail a) [];rw[decide_eq_false jI]at nE;have hcf:∀wl J bx,aP wl J (.load true 2 false) [.val (.ptr 0 0 0 12)] [(((d.nC (aU p).cu[k]).bt W).fail a).bC] bx=some (.val (.agg [.int .i64 3,.int .i64 a]),[(((d.nC (aU p).cu[k]).bt W).fail a).bC],bx):=λwl J bx=>by
    rw[adN,JS.1,JS.2]
   rw[<-hp];simp only[Je];generalize (((d.nC (aU p).cu[k]).bt W).fail a).bC=o1 at *;have w1:aR (cM W)=true:=ig;have w2:(cM W).aa=cM W:=iQ;generalize cM W=FW at *;have ap:=qi [FW,v.aa,.int .i64 p.funcs[k].a] rfl;have v2:=bK v1;have v3:=cm v1;have v4:aR v.aa=true:=(by rw[ug];exact v1);generalize aK 4 (p.funcs[k].params.map PD.cells)=PP at *;generalize bF p.funcs[k].body=PB at *;generalize cM (aU p).cu[k].ps=SP at *;generalize cC 3 (bs.map Bd.aG)=BL at *;generalize p.funcs[k]=fk at *;generalize (aU p).cu[k]=gk at *;simp[-ax,-ag,bM,ya,f3,f4,aib,Y4,Vx,adP,t4,t5,t6,ps1,ps2,bd1,bd2,sp2,hB,w1,w2,v4,ap,nE,hcf,ah,AV.aa,AV.au,AV.af,aF,aC]
  |ok x=>
   obtain⟨c,W⟩:=x;rw[hR]at hp hB;simp only at hp hB;have iF:=λb7=>ih (k+1,bs++[⟨W,c,p.funcs[k].a⟩],(d.nC (aU p).cu[k]).bt W,b7) ⟨by simp only;omega,by simp[hbs],hd,hdf,hp⟩ (by simp only;omega);simp only[List.map_append,List.map_cons,List.map_nil,Bd.aG]at iF;have nE:=λJ=>cF J ((d.nC (aU p).cu[k]).bt W) [];rw[decide_eq_true (show ((d.nC (aU p).cu[k]).bt W).fe=0 from hdf)]at nE;generalize ((d.nC (aU p).cu[k]).bt W).bC=o1 at *;have w1:aR (cM W)=true:=ig;have w2:(cM W).aa=cM W:=iQ;generalize cM W=FW at *;have ap:=qi [FW,bF c,.int .i64 p.funcs[k].a] rfl;have c1:aR (cC 9 (Sm.rows c))=true:=dz;have c2:(cC 9 (Sm.rows c)).aa=bF c:=rfl;have c3:=bK c1;have c4:=cm c1;have c5:aR (bF c)=true:=bN;generalize cC 9 (Sm.rows c)=MC at *;generalize bF c=SC at *;generalize aK 4 (p.funcs[k].params.map PD.cells)=PP at *;generalize bF p.funcs[k].body=PB at *;generalize cM (aU p).cu[k].ps=SP at *;have n1:aR (cC 3 (bs.map Bd.aG++[[FW,SC,.int .i64 p.funcs[k].a]]))=true:=dz;generalize cC 3 (bs.map Bd.aG++[[FW,SC,.int .i64 p.funcs[k].a]])=BN at *;generalize cC 3 (bs.map Bd.aG)=BL at *;generalize p.funcs[k]=fk at *;generalize (aU p).cu[k]=gk at *;simp[-ax,-ag,bM,ya,FZ,f3,f4,aib,Y4,Vx,adP,t4,t5,t6,ps1,ps2,bd1,bd2,sp2,hB,w1,w2,c2,c5,n1,ap,nE,ah,AV.aa,AV.au,AV.af,aF,aC];exact iF _
  have j8:k=p.funcs.length:=by omega
  have hR:pM (aU p) (aU p).cu p.funcs=.ok bs:=by
   rw[<-hp,j8,List.drop_length,<-dw,List.drop_length];simp[pM,Rq]
  rw[hR];have n1:aR (cC 3 (bs.map Bd.aG))=true:=dz;have n2:(cC 3 (bs.map Bd.aG)).aa=aK 3 (bs.map Bd.aG):=rfl;have n3:=bK n1;have n4:aR (aK 3 (bs.map Bd.aG))=true:=bL;simp only[Je,td];rw[hHS,hHG,hGL];generalize cC 3 (bs.map Bd.aG)=BL at *;generalize aK 3 (bs.map Bd.aG)=BV at *;simp[-ax,-ag,ya,t1,t2,t3,t4,gl1,gl2,n2,n4,ah,AV.aa]
end K9
