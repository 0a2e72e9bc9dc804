/- Part of a proof. -/
import Derived.Test.YtachcambnjecnaaC
import Derived.Test.YtachcambnjecnaaP
import Derived.Test.YtachcambnjecnaaN

set_option maxRecDepth 100000
set_option maxHeartbeats 8000000
namespace K9
open Ax Go cz V7 kL lV
theorem CV{P:Prop}{es:List E}(h:es.length=1)(hp:∀e,es=[e]->P):P:=by
 match es,h with
 |[e],_=>exact hp e rfl
theorem jU(aa:Nat)(c:CK)(s:Sm)(_hn:s.es.length<1000000000):(bg S).call 0 aa 72 [.ptr 0 0 0 0,.agg s.row] [c.bC]=some (.bool (ee c.sg.bO s.k s.es),[c.bC]):=by
 have dg:=Sm.aG s
 have hz:dc 11 (aW s.es)=true:=qX
 have dV:aJ (aW s.es)=true:=bu
 have iL:(aW s.es).view=aW s.es:=bF
 have fH:aZ (aW s.es)=E.rows s.es:=aT
 have m0:((s.es.length:Int)=0)=(s.es.length=0):=by simp
 have m1:((s.es.length:Int)=1)=(s.es.length=1):=by apply propext;omega
 have m2:((s.es.length:Int)=2)=(s.es.length=2):=by apply propext;omega
 rw[dg]
 generalize s.k=k at *
 unfold ee
 by_cases h1:k=1
 ·subst h1
  refine ax (sf:=yQ) rfl rfl rfl ?_
  generalize aW s.es=kv at *
  simp[-au,-ag,yQ,dV,iL,fH,AV.view]
 by_cases h4:k=4
 ·subst h4
  refine ax (sf:=yQ) rfl rfl rfl ?_
  simp only[if_neg h1,if_true]
  match qe:s.es,fH,m2 with
  |[e,e2],fH,m2=>
   rw[qe]at hz dV iL
   simp only[E.rows]at fH
   rw[E.aG e,E.aG e2]at fH
   generalize aW [e,e2]=kv at *
   by_cases q:e.k=5
   ·simp[-au,-ag,yQ,bP,hz,dV,iL,fH,q,AV.view]
   ·simp[-au,-ag,yQ,bP,hz,dV,iL,fH,q,AV.view]
  |[],fH,m2=>
   rw[qe]at hz dV iL
   generalize aW []=kv at *
   simp[-au,-ag,yQ,dV,iL,fH,E.rows,AV.view]
  |[e],fH,m2=>
   rw[qe]at hz dV iL
   simp only[E.rows]at fH
   generalize aW [e]=kv at *
   simp[-au,-ag,yQ,dV,iL,fH,AV.view]
  |e::e2::e3::l,fH,m2=>
   rw[qe]at hz dV iL
   have hl3:¬((E.rows (e::e2::e3::l)).length:Int)=2:=by simp;omega
   generalize aW (e::e2::e3::l)=kv at *
   generalize E.rows (e::e2::e3::l)=rws at *
   simp[-au,-ag,yQ,dV,iL,fH,hl3,AV.view]
 by_cases h7:k=7
 ·subst h7
  refine ax (sf:=yQ) rfl rfl rfl ?_
  simp only[if_neg h1,if_neg h4,if_true]
  generalize aW s.es=kv at *
  have hc:=λwl aa r bx=>aeo (wl:=wl) (aa:=aa) (c:=c) (r:=r) (bx:=bx)
  cases hh:c.sg.bO with
  |false=>
   rw[hh]at hc
   by_cases q1:s.es.length=1
   ·simp[-au,-ag,yQ,dV,iL,fH,q1,hc,AV.view]
   ·by_cases q0:s.es.length=0
    ·simp[-au,-ag,yQ,dV,iL,fH,q0,hc,AV.view]
    ·simp[-au,-ag,yQ,dV,iL,fH,m1,q0,q1,AV.view]
  |true=>
   rw[hh]at hc
   by_cases q1:s.es.length=1
   ·simp[-au,-ag,yQ,dV,iL,fH,q1,hc,AV.view]
   ·by_cases q0:s.es.length=0
    ·simp[-au,-ag,yQ,dV,iL,fH,q0,hc,AV.view]
    ·simp[-au,-ag,yQ,dV,iL,fH,m1,q0,q1,AV.view]
 by_cases h9:k=9
 ·subst h9
  refine ax (sf:=yQ) rfl rfl rfl ?_
  simp only[if_neg h1,if_neg h4,if_neg h7,if_true]
  match qe:s.es,fH,m2 with
  |[e],fH,m2=>
   rw[qe]at hz dV iL
   simp only[E.rows]at fH
   rw[E.aG e]at fH
   generalize aW [e]=kv at *
   simp[-au,-ag,yQ,bP,hz,dV,iL,fH,AV.view]
  |[],fH,m2=>
   rw[qe]at hz dV iL
   generalize aW []=kv at *
   simp[-au,-ag,yQ,dV,iL,fH,E.rows,AV.view]
  |e::e2::l,fH,m2=>
   rw[qe]at hz dV iL
   have hl3:¬((E.rows (e::e2::l)).length:Int)=1:=by simp;omega
   generalize aW (e::e2::l)=kv at *
   generalize E.rows (e::e2::l)=rws at *
   simp[-au,-ag,yQ,dV,iL,fH,hl3,AV.view]
 refine ax (sf:=yQ) rfl rfl rfl ?_
 simp only[if_neg h1,if_neg h4,if_neg h7,if_neg h9]
 generalize aW s.es=kv at *
 by_cases h2:k=2
 ·subst h2
  simp[-au,-ag,yQ,dV,iL,fH,m1,AV.view]
 by_cases h3:k=3
 ·subst h3
  simp[-au,-ag,yQ,dV,iL,fH,m1,AV.view]
 by_cases h5:k=5
 ·subst h5
  simp[-au,-ag,yQ,dV,iL,fH,m1,AV.view]
 by_cases h6:k=6
 ·subst h6
  simp[-au,-ag,yQ,dV,iL,fH,m1,AV.view]
 by_cases h8:k=8
 ·subst h8
  simp[-au,-ag,yQ,dV,iL,fH,m1,AV.view]
 simp[-au,-ag,yQ,h1,h2,h3,h4,h5,h6,h7,h8,h9,dV,AV.view]
def ZA(o:Option (Int×List Vd))(v:AV):Prop:=∃z:Int,v=.fK [.int .i64 z,.bool o.isSome]/\∀r W,o=some (r,W)->z=r
def lK(c:CK)(o:Option (Int×List Vd)):CK:=match o with|some (_,W)=>{ c with V:=W } | none=>c
theorem VB(aa:Nat)(c:CK)(s:Sm)(t:T3)(hs:Ac c)(hf:ee c.sg.bO s.k s.es=true) :
  ∃v,ZA (j8 c.H c.sg.br c.V s.k s.nm s.es t) v/\(bg S).call 0 aa 76 [.ptr 0 0 0 0,.agg s.row,.agg [.int .i64 t.b,.int .i64 t.r,.int .i64 t.d]] [c.bC]=some (v,[(lK c (j8 c.H c.sg.br c.V s.k s.nm s.es t)).bC]):=by
 have eD:=λaa=>KB aa c s.nm t hs
 have eV:=λaa=>Ad aa c s.nm [] hs
 have eN:=λwl aa st=>zd wl aa st
 have eT:=λwl aa st=>CS wl aa st
 have dg:=Sm.aG s
 have hz:dc 11 (aW s.es)=true:=qX
 have dV:aJ (aW s.es)=true:=bu
 have iL:(aW s.es).view=aW s.es:=bF
 have fH:aZ (aW s.es)=E.rows s.es:=aT
 have one:∀j,s.k=j->(j=2\/j=3\/j=5\/j=6\/j=8)->∃x,s.es=[x]:=λj hj h=>by
  have hlen:s.es.length=1:=by
   rw[hj]at hf
   rcases h with h|h|h|h|h<;>subst h<;>simpa [ee] using hf
  match hh:s.es,hlen with
  |[x],_=>exact⟨x,rfl⟩
 have hV:=hs.V
 rw[dg]
 unfold j8
 by_cases h1:s.k=1
 ·rw[if_pos h1,h1]
  cases hl:ij s.nm 0 c.V with
  |some x=>
   refine⟨.fK [.int .i64 0,.bool false],⟨0,rfl,λ_ _ h=>by cases h⟩,?_⟩
   rw[hl]at eD
   simp only[CT]at eD
   refine ax (sf:=wZ) rfl rfl rfl ?_
   generalize aW s.es=kv at *
   simp[-au,-ag,wZ,eD,dV,lK,AV.view]
  |none=>
   refine⟨.fK [.int .i64 c.V.length,.bool true],⟨c.V.length,rfl,λ_ _ h=>by cases h;rfl⟩,?_⟩
   rw[hl]at eD
   simp only[CT]at eD
   simp only[lK]
   refine ax (sf:=wZ) rfl rfl rfl ?_
   generalize aW s.es=kv at *
   generalize ({ c with V:=c.V++[(⟨s.nm,t⟩:Vd)] }:CK).bC=XJ at *
   simp[-au,-ag,wZ,eD,dV,AV.view]
 rw[if_neg h1]
 by_cases h2:s.k=2
 ·obtain⟨x,hx⟩:=one 2 h2 (by simp)
  rw[if_pos h2,h2]
  have a1:vn s.es=x.ty:=by rw[hx];rfl
  rw[a1]
  rw[show E.rows s.es=E.rows [x] from by rw[hx]]at fH
  simp only[E.rows,E.aG]at fH
  generalize aW s.es=kv at *
  by_cases q:x.ty=t
  ·rw[if_pos q]
   rw[<-q]at eD ⊢
   cases hl:ij s.nm 0 c.V with
   |some y=>
    refine⟨.fK [.int .i64 0,.bool false],⟨0,rfl,λ_ _ h=>by cases h⟩,?_⟩
    rw[hl]at eD
    simp only[CT]at eD
    refine ax (sf:=wZ) rfl rfl rfl ?_
    simp[-au,-ag,wZ,eD,hz,dV,iL,fH,bP,lK,AV.view,aC,aA]
   |none=>
    refine⟨.fK [.int .i64 c.V.length,.bool true],⟨c.V.length,rfl,λ_ _ h=>by cases h;rfl⟩,?_⟩
    rw[hl]at eD
    simp only[CT]at eD
    simp only[lK]
    refine ax (sf:=wZ) rfl rfl rfl ?_
    generalize ({ c with V:=c.V++[(⟨s.nm,x.ty⟩:Vd)] }:CK).bC=XJ at *
    simp[-au,-ag,wZ,eD,hz,dV,iL,fH,bP,AV.view,aC,aA]
  ·rw[if_neg q]
   refine⟨.fK [.int .i64 0,.bool false],⟨0,rfl,λ_ _ h=>by cases h⟩,?_⟩
   refine ax (sf:=wZ) rfl rfl rfl ?_
   simp[-au,-ag,wZ,hz,dV,iL,fH,bP,dU,q,lK,AV.view,aC,aA]
 rw[if_neg h2]
 by_cases h3:s.k=3
 ·obtain⟨x,hx⟩:=one 3 h3 (by simp)
  rw[if_pos h3,h3]
  have a1:vn s.es=x.ty:=by rw[hx];rfl
  rw[a1]
  rw[show E.rows s.es=E.rows [x] from by rw[hx]]at fH
  simp only[E.rows,E.aG]at fH
  generalize aW s.es=kv at *
  cases hv:yX c.H c.V s.nm with
  |none=>
   refine⟨.fK [.int .i64 0,.bool false],⟨0,rfl,λ_ _ h=>by cases h⟩,?_⟩
   rw[hv]at eV
   simp only[IG]at eV
   refine ax (sf:=wZ) rfl rfl rfl ?_
   simp[-au,-ag,wZ,eV,dV,lK,af,AV.view,aC,aA]
  |some y=>
   obtain⟨u,r⟩:=y
   rw[hv]at eV
   simp only[IG]at eV
   by_cases q:u=x.ty
   ·refine⟨.fK [.int .i64 r,.bool true],⟨r,by simp[q],λ_ _ h=>by simp[q]at h;exact h.1⟩,?_⟩
    simp only[if_pos q]
    refine ax (sf:=wZ) rfl rfl rfl ?_
    simp[-au,-ag,wZ,eV,hz,dV,iL,fH,bP,q,lK,af,AV.view,aC,aA]
   ·refine⟨.fK [.int .i64 r,.bool false],⟨r,by simp[q],λ_ _ h=>by simp[q]at h⟩,?_⟩
    simp only[if_neg q]
    refine ax (sf:=wZ) rfl rfl rfl ?_
    simp[-au,-ag,wZ,eV,hz,dV,iL,fH,bP,dU,q,lK,af,AV.view,aC,aA]
 rw[if_neg h3]
 have kJ:∀(p:Prop) [Decidable p],ZA (if p then some ((0:Int),c.V) else none) (.fK [.int .i64 0,.bool (decide p)]):=λp _=>by
  refine⟨0,?_,λr W h=>?_⟩
  ·by_cases q:p<;>simp[q]
  ·split at h<;>cases h;rfl
 have RK:∀(p:Prop) [Decidable p],lK c (if p then some ((0:Int),c.V) else none)=c:=λp _=>by
  by_cases q:p<;>simp[q,lK]
 by_cases h4:s.k=4
 ·rw[if_pos h4,h4]
  obtain⟨x,y,hx⟩:∃x y,s.es=[x,y]:=by
   rw[h4]at hf
   unfold ee at hf
   match hh:s.es,hf with
   |[x,y],_=>exact⟨x,y,rfl⟩
  have a1:vn s.es=x.ty:=by rw[hx];rfl
  have a2:CD s.es=y.ty:=by rw[hx];rfl
  rw[a1,a2]
  rw[show E.rows s.es=E.rows [x,y] from by rw[hx]]at fH
  simp only[E.rows,E.aG]at fH
  generalize aW s.es=kv at *
  refine⟨_,kJ _,?_⟩
  rw[RK]
  refine ax (sf:=wZ) rfl rfl rfl ?_
  simp[-au,-ag,wZ,hz,dV,iL,fH,bP,dU,AV.view,aC,aA]
 rw[if_neg h4]
 by_cases h5:s.k=5
 ·obtain⟨x,hx⟩:=one 5 h5 (by simp)
  rw[if_pos (.inl h5),h5]
  have a1:vn s.es=x.ty:=by rw[hx];rfl
  rw[a1]
  rw[show E.rows s.es=E.rows [x] from by rw[hx]]at fH
  simp only[E.rows,E.aG]at fH
  generalize aW s.es=kv at *
  refine⟨_,kJ _,?_⟩
  rw[RK]
  refine ax (sf:=wZ) rfl rfl rfl ?_
  simp[-au,-ag,wZ,hz,dV,iL,fH,bP,eT,dB,AV.view,aC,aA]
 by_cases h6:s.k=6
 ·obtain⟨x,hx⟩:=one 6 h6 (by simp)
  rw[if_pos (.inr h6),h6]
  have a1:vn s.es=x.ty:=by rw[hx];rfl
  rw[a1]
  rw[show E.rows s.es=E.rows [x] from by rw[hx]]at fH
  simp only[E.rows,E.aG]at fH
  generalize aW s.es=kv at *
  refine⟨_,kJ _,?_⟩
  rw[RK]
  refine ax (sf:=wZ) rfl rfl rfl ?_
  simp[-au,-ag,wZ,hz,dV,iL,fH,bP,eT,dB,AV.view,aC,aA]
 rw[if_neg (λh=>h.elim h5 h6)]
 by_cases h7:s.k=7
 ·rw[if_pos h7,h7]
  refine⟨_,kJ _,?_⟩
  rw[RK]
  rw[h7]at hf
  refine ax (sf:=wZ) rfl rfl rfl ?_
  match qe:s.es with
  |[]=>
   rw[qe]at hz dV iL fH
   generalize aW []=kv at *
   simp[-au,-ag,wZ,dV,iL,fH,E.rows,AV.view,aC,aA]
  |[x]=>
   rw[qe]at hz dV iL fH
   simp only[E.rows,E.aG]at fH
   generalize aW [x]=kv at *
   have a1:vn [x]=x.ty:=rfl
   have cr:=λwl aa r bx=>aep (wl:=wl) (aa:=aa) (c:=c) (r:=r) (bx:=bx)
   simp[-au,-ag,wZ,hz,dV,iL,fH,bP,cr,dU,a1,AV.view,aC,aA]
  |x::y::l=>
   rw[qe]at hf
   simp[ee]at hf
 rw[if_neg h7]
 by_cases h8:s.k=8
 ·obtain⟨x,hx⟩:=one 8 h8 (by simp)
  rw[if_pos h8,h8]
  have a1:vn s.es=x.ty:=by rw[hx];rfl
  rw[a1]
  rw[show E.rows s.es=E.rows [x] from by rw[hx]]at fH
  simp only[E.rows,E.aG]at fH
  generalize aW s.es=kv at *
  refine⟨_,kJ _,?_⟩
  rw[RK]
  refine ax (sf:=wZ) rfl rfl rfl ?_
  simp[-au,-ag,wZ,hz,dV,iL,fH,bP,eN,dI,AV.view,aC,aA]
 rw[if_neg h8]
 refine⟨.fK [.int .i64 0,.bool true],⟨0,rfl,λ_ _ h=>by cases h;rfl⟩,?_⟩
 simp only[lK]
 refine ax (sf:=wZ) rfl rfl rfl ?_
 generalize aW s.es=kv at *
 simp[-au,-ag,wZ,h1,h2,h3,h4,h5,h6,h7,h8,dV,AV.view]
end K9
namespace K9
open Ax Go cz V7 kL lV
def CK.bN(c:CK)(W:List Vd):CK:={ c with V:=W }
def RL(r:List AV):Prop:=∃(k:Int)(nm on:List UInt8)(od:Int)(es bd el:AV)(a cN:Int),r=[.int .i64 k,.str nm,.str on,.int .i64 od,es,bd,el,.int .i64 a,.int .i64 cN]/\aJ es=true/\aJ bd=true/\aJ el=true
abbrev Z9:List AV:=[.int .i64 0,.str [],.str [],.int .i64 0,.U,.U,.U,.int .i64 0,.int .i64 0]
theorem qY:RL Z9:=⟨0,[],[],0,.U,.U,.U,0,0,rfl,rfl,rfl,rfl⟩
def yz(c:CK)(s:Sm):Prop:=match wQ c.H c.sg.bO c.sg.br c.V s with
 |.ok (y,W)=>∀aa,(bg S).call 0 aa 59 [.ptr 0 0 0 0,.agg s.row] [c.bC]=some (.agg y.row,[(c.bN W).bC])
 |.error a=>∀aa,∃W row,RL row/\(bg S).call 0 aa 59 [.ptr 0 0 0 0,.agg s.row] [c.bC]=some (.agg row,[((c.bN W).fail a).bC])
def Kz(c:CK)(l:List Sm):Prop:=match kF c.H c.sg.bO c.sg.br c.V l with
 |.ok (ys,W)=>∀aa,(bg S).call 0 aa 43 [.ptr 0 0 0 0,bD l] [c.bC]=some (cD 9 (Sm.rows ys),[(c.bN W).bC])
 |.error a=>∀aa,∃W v,aJ v=true/\(bg S).call 0 aa 43 [.ptr 0 0 0 0,bD l] [c.bC]=some (v,[((c.bN W).fail a).bC])
theorem Ga{c:CK}{W:List Vd}(h:yA c)(hW:∀f∈W,WT c.H.rs.length f.ty)(hl:W.length<1000000000):yA (c.bN W):=⟨⟨hl,h.s.G,h.s.S,h.s.R,h.s.F,h.s.P⟩,h.H,hW⟩
theorem EH(aa:Nat)(c:CK)(l:List Sm)(hf:c.fe≠0)(hn:l.length<1000000000):(bg S).call 0 aa 43 [.ptr 0 0 0 0,bD l] [c.bC]=some (.U,[c.bC]):=by
 have hz:dc 9 (bD l)=true:=F6
 have dV:aJ (bD l)=true:=bL
 have iL:(bD l).view=bD l:=bR
 have fH:aZ (bD l)=Sm.rows l:=aT
 have jS:=λaa=>cG aa c []
 rw[decide_eq_false hf]at jS
 refine ax (sf:=W0) rfl rfl rfl ?_
 cases l with
 |nil=>
  generalize bD []=lv at *
  rw[Sm.rows]at fH
  simp[-au,-ag,W0,dV,iL,fH]
  rw[Ft Cn.eq_1]
  simp[-au,-ag]
 |cons s l=>
  have hlen:0<(Sm.rows (s::l)).length:=by simp
  have hg:(Sm.rows (s::l))[0]?=some s.row:=by simp[Sm.rows]
  have Gb:∀h:0<(Sm.rows (s::l)).length,(Sm.rows (s::l))[0]=s.row:=λh=>by simp[Sm.rows]
  generalize bD (s::l)=lv at *
  generalize Sm.rows (s::l)=rws at *
  rw[Sm.aG]at hg
  have Xg:0<rws.length:=hlen
  have aet:=Gb Xg
  rw[Sm.aG]at aet
  simp[-au,-ag,W0,dV,iL,fH]
  rw[Ft Cn.eq_1]
  simp[-au,-ag,iL,fH,hz,Xg,aet,bP,jS,af,AV.view]
theorem oS(aa:Nat)(c:CK)(k:Int)(nm on:List UInt8)(od:Int)(ys:List E)(a:Int)(t:T3)(hs:Ac c)(hf:ee c.sg.bO k ys=true) :
  ∃v,ZA (j8 c.H c.sg.br c.V k nm ys t) v/\(bg S).call 0 aa 76 [.ptr 0 0 0 0,.agg (Sm.mk k nm on od ys [] [] a 0).row,.agg [.int .i64 t.b,.int .i64 t.r,.int .i64 t.d]] [c.bC]=some (v,[(lK c (j8 c.H c.sg.br c.V k nm ys t)).bC]):=
 VB aa c (.mk k nm on od ys [] [] a 0) t hs hf
theorem ZB(c:CK)(s:Sm)(hn:s.es.length<1000000000)(h:ee c.sg.bO s.k s.es=false):yz c s:=by
 unfold yz
 rw[nk,h]
 simp only[Bool.false_eq_true,if_false]
 intro aa
 refine⟨c.V,Z9,qY,?_⟩
 have lT:=λaa=>jU aa c s hn
 rw[h]at lT
 have en:=λwl aa st=>j7 wl aa st
 have A3:=λaa=>eu aa c s.a []
 have n5:c.bN c.V=c:=rfl
 rw[n5]
 rw[Sm.aG s]at lT ⊢
 generalize (c.fail s.a).bC=o at *
 refine ax (sf:=kX) rfl rfl rfl ?_
 simp[-au,-ag,kX,lT,en,A3,af,AV.view,AV.an,AV.ah,aQ,bw]
theorem ZC(c:CK)(s:Sm)(hf:c.fe=0)(hw:yA c)(eH:c.V.length+Sm.sz s<1000000000)(hk:s.k=1)(h:ee c.sg.bO s.k s.es=true):yz c s:=by
 unfold yz
 have hz:=Sm.nV s
 have rN:=E.fF s.es
 have lT:=λaa=>jU aa c s (by omega)
 rw[h]at lT
 have en:=λwl aa st=>j7 wl aa st
 have A3:=λaa=>eu aa c s.a []
 have l5:=λaa=>cG aa c []
 rw[decide_eq_true hf]at l5
 have n5:c.bN c.V=c:=rfl
 have dg:=Sm.aG s
 rw[hk]at dg
 rw[nk,h]
 rw[hk]at h ⊢
 simp only[if_true]
 rw[dg]at lT ⊢
 have e1:aJ (aW s.es)=true:=bu
 have e2:(aW s.es).view=aW s.es:=bF
 have b1:aJ (bD s.bd)=true:=bL
 have b2:(bD s.bd).view=bD s.bd:=bR
 have l1:aJ (bD s.el)=true:=bL
 have l2:(bD s.el).view=bD s.el:=bR
 have cJ:=kP c s.es hf (by omega) (λe he=>ig c hf hw e (by have:=E.jj he;omega))
 have uy:Aa c.H c.V 1 s.es=lW c.H c.V s.es:=qV (by decide)
 have Ae:=λwl aa st=>xX wl aa c.H.rs s.on s.od st hw.s.R
 have DL:j5 c.H 1 s.on s.od=if (dh c.H.rs s.on s.od).2 then some (dh c.H.rs s.on s.od).1 else none:=if_pos (by decide)
 rw[DL]
 unfold Xe at Ae
 have hwt:=mF c.H.rs s.on s.od
 generalize dh c.H.rs s.on s.od=tt at *
 obtain⟨t,b⟩:=tt
 cases b with
 |false=>
  simp only[Bool.false_eq_true,if_false]
  intro aa
  refine⟨c.V,Z9,qY,?_⟩
  rw[n5]
  simp only at Ae
  generalize aW s.es=ev at *
  generalize bD s.bd=bv at *
  generalize bD s.el=lv at *
  generalize (c.fail s.a).bC=o at *
  refine ax (sf:=kX) rfl rfl rfl ?_
  simp[-au,-ag,kX,lT,en,e1,e2,b1,b2,l1,l2,wT,Ae,A3,af,AV.view,AV.an,AV.ah,aC,aQ,bw,aA]
 |true=>
 simp only[if_true]
 simp only at Ae
 rw[uy]
 cases hv:lW c.H c.V s.es with
 |error a=>
  rw[hv]at cJ
  simp only at cJ ⊢
  intro aa
  refine⟨c.V,Z9,qY,?_⟩
  rw[n5]
  obtain⟨v,dV,ev⟩:=cJ 1
  have Dy:=bE dV
  have NO:=cC dV
  have jS:=λaa=>cG aa (c.fail a) []
  rw[decide_eq_false jk]at jS
  generalize aW s.es=kv at *
  generalize bD s.bd=bv at *
  generalize bD s.el=lv at *
  generalize (c.fail a).bC=o at *
  refine ax (sf:=kX) rfl rfl rfl ?_
  simp[-au,-ag,kX,lT,en,e1,e2,b1,b2,l1,l2,wT,Ae,ev,dV,jS,af,AV.view,AV.an,AV.ah,aC,aQ,bw,aA]
 |ok ys=>
  rw[hv]at cJ
  simp only at cJ ⊢
  have nW:ee c.sg.bO 1 ys=true:=mG hv h
  obtain⟨fv,⟨z,rfl,mO⟩,cV⟩:=oS 1 c 1 (cg 1 s.nm) (bH 1 s.on) (bJ 1 s.od) ys s.a t hw.s nW
  simp only[mH]at mO cV
  have kT:(Sm.mk 1 (cg 1 s.nm) (bH 1 s.on) (bJ 1 s.od) ys [] [] s.a 0).row=[.int .i64 1,.str s.nm,.str s.on,.int .i64 s.od,aW ys,.U,.U,.int .i64 s.a,.int .i64 0]:=by simp[Sm.row,Sm.rows,cg,bH,bJ]
  rw[kT]at cV
  have m1:aJ (cD 11 (E.rows ys))=true:=dz
  have m2:(cD 11 (E.rows ys)).view=aW ys:=rfl
  generalize cD 11 (E.rows ys)=mv at *
  have m3:=bE m1
  have m4:=cC m1
  have y1:aJ (aW ys)=true:=bu
  have y2:(aW ys).view=aW ys:=bF
  generalize Gc:aW ys=yv at *
  generalize aW s.es=kv at *
  cases hT:j8 c.H c.sg.br c.V 1 s.nm ys t with
  |none=>
   simp only
   intro aa
   refine⟨c.V,Z9,qY,?_⟩
   rw[n5]
   rw[hT]at cV
   simp only[Option.isSome_none,lK]at cV
   generalize bD s.bd=bv at *
   generalize bD s.el=lv at *
   generalize (c.fail s.a).bC=o at *
   refine ax (sf:=kX) rfl rfl rfl ?_
   simp[-au,-ag,kX,lT,en,e1,e2,b1,b2,l1,l2,wT,Ae,cJ,m1,m2,l5,cV,A3,af,AV.view,AV.an,AV.ah,aC,aQ,bw,aA]
  |some x=>
   obtain⟨r,W⟩:=x
   have mO:=mO r W hT
   subst mO
   rw[hT]at cV
   simp only[Option.isSome_some,lK]at cV
   have IL:({ c with V:=W }:CK)=c.bN W:=rfl
   rw[IL]at cV
   simp only[show ¬((1:Int)=5) from by decide,show ¬((1:Int)=6) from by decide,if_false]
   intro aa
   have yx:(Sm.mk 1 (cg 1 s.nm) (bH 1 s.on) (bJ 1 s.od) ys [] [] s.a z).row=[.int .i64 1,.str s.nm,.str s.on,.int .i64 s.od,yv,.U,.U,.int .i64 s.a,.int .i64 z]:=by simp[Sm.row,Sm.rows,cg,bH,bJ,Gc]
   show _=some (AV.agg (Sm.mk 1 (cg 1 s.nm) (bH 1 s.on) (bJ 1 s.od) ys [] [] s.a z).row,_)
   rw[yx]
   generalize bD s.bd=bv at *
   generalize bD s.el=lv at *
   generalize (c.bN W).bC=o at *
   refine ax (sf:=kX) rfl rfl rfl ?_
   simp[-au,-ag,kX,lT,en,e1,e2,b1,b2,l1,l2,wT,Ae,cJ,m1,m2,y1,l5,cV,af,AV.view,AV.an,AV.ah,aC,aQ,bw,aA]
theorem ZD(c:CK)(s:Sm)(hf:c.fe=0)(hw:yA c)(eH:c.V.length+Sm.sz s<1000000000)(hk:s.k=2)(h:ee c.sg.bO s.k s.es=true):yz c s:=by
 unfold yz
 have hz:=Sm.nV s
 have rN:=E.fF s.es
 have lT:=λaa=>jU aa c s (by omega)
 rw[h]at lT
 have en:=λwl aa st=>j7 wl aa st
 have A3:=λaa=>eu aa c s.a []
 have l5:=λaa=>cG aa c []
 rw[decide_eq_true hf]at l5
 have n5:c.bN c.V=c:=rfl
 have dg:=Sm.aG s
 rw[hk]at dg
 rw[nk,h]
 rw[hk]at h ⊢
 simp only[if_true]
 rw[dg]at lT ⊢
 have e1:aJ (aW s.es)=true:=bu
 have e2:(aW s.es).view=aW s.es:=bF
 have b1:aJ (bD s.bd)=true:=bL
 have b2:(bD s.bd).view=bD s.bd:=bR
 have l1:aJ (bD s.el)=true:=bL
 have l2:(bD s.el).view=bD s.el:=bR
 have cJ:=kP c s.es hf (by omega) (λe he=>ig c hf hw e (by have:=E.jj he;omega))
 have uy:Aa c.H c.V 2 s.es=lW c.H c.V s.es:=qV (by decide)
 have Ae:=λwl aa st=>xX wl aa c.H.rs s.on s.od st hw.s.R
 have DL:j5 c.H 2 s.on s.od=if (dh c.H.rs s.on s.od).2 then some (dh c.H.rs s.on s.od).1 else none:=if_pos (by decide)
 rw[DL]
 unfold Xe at Ae
 have hwt:=mF c.H.rs s.on s.od
 generalize dh c.H.rs s.on s.od=tt at *
 obtain⟨t,b⟩:=tt
 cases b with
 |false=>
  simp only[Bool.false_eq_true,if_false]
  intro aa
  refine⟨c.V,Z9,qY,?_⟩
  rw[n5]
  simp only at Ae
  generalize aW s.es=ev at *
  generalize bD s.bd=bv at *
  generalize bD s.el=lv at *
  generalize (c.fail s.a).bC=o at *
  refine ax (sf:=kX) rfl rfl rfl ?_
  simp[-au,-ag,kX,lT,en,e1,e2,b1,b2,l1,l2,wT,Ae,A3,af,AV.view,AV.an,AV.ah,aC,aQ,bw,aA]
 |true=>
 simp only[if_true]
 simp only at Ae
 rw[uy]
 cases hv:lW c.H c.V s.es with
 |error a=>
  rw[hv]at cJ
  simp only at cJ ⊢
  intro aa
  refine⟨c.V,Z9,qY,?_⟩
  rw[n5]
  obtain⟨v,dV,ev⟩:=cJ 1
  have Dy:=bE dV
  have NO:=cC dV
  have jS:=λaa=>cG aa (c.fail a) []
  rw[decide_eq_false jk]at jS
  generalize aW s.es=kv at *
  generalize bD s.bd=bv at *
  generalize bD s.el=lv at *
  generalize (c.fail a).bC=o at *
  refine ax (sf:=kX) rfl rfl rfl ?_
  simp[-au,-ag,kX,lT,en,e1,e2,b1,b2,l1,l2,wT,Ae,ev,dV,jS,af,AV.view,AV.an,AV.ah,aC,aQ,bw,aA]
 |ok ys=>
  rw[hv]at cJ
  simp only at cJ ⊢
  have nW:ee c.sg.bO 2 ys=true:=mG hv h
  obtain⟨fv,⟨z,rfl,mO⟩,cV⟩:=oS 1 c 2 (cg 2 s.nm) (bH 2 s.on) (bJ 2 s.od) ys s.a t hw.s nW
  simp only[mH]at mO cV
  have kT:(Sm.mk 2 (cg 2 s.nm) (bH 2 s.on) (bJ 2 s.od) ys [] [] s.a 0).row=[.int .i64 2,.str s.nm,.str s.on,.int .i64 s.od,aW ys,.U,.U,.int .i64 s.a,.int .i64 0]:=by simp[Sm.row,Sm.rows,cg,bH,bJ]
  rw[kT]at cV
  have m1:aJ (cD 11 (E.rows ys))=true:=dz
  have m2:(cD 11 (E.rows ys)).view=aW ys:=rfl
  generalize cD 11 (E.rows ys)=mv at *
  have m3:=bE m1
  have m4:=cC m1
  have y1:aJ (aW ys)=true:=bu
  have y2:(aW ys).view=aW ys:=bF
  generalize Gc:aW ys=yv at *
  generalize aW s.es=kv at *
  cases hT:j8 c.H c.sg.br c.V 2 s.nm ys t with
  |none=>
   simp only
   intro aa
   refine⟨c.V,Z9,qY,?_⟩
   rw[n5]
   rw[hT]at cV
   simp only[Option.isSome_none,lK]at cV
   generalize bD s.bd=bv at *
   generalize bD s.el=lv at *
   generalize (c.fail s.a).bC=o at *
   refine ax (sf:=kX) rfl rfl rfl ?_
   simp[-au,-ag,kX,lT,en,e1,e2,b1,b2,l1,l2,wT,Ae,cJ,m1,m2,l5,cV,A3,af,AV.view,AV.an,AV.ah,aC,aQ,bw,aA]
  |some x=>
   obtain⟨r,W⟩:=x
   have mO:=mO r W hT
   subst mO
   rw[hT]at cV
   simp only[Option.isSome_some,lK]at cV
   have IL:({ c with V:=W }:CK)=c.bN W:=rfl
   rw[IL]at cV
   simp only[show ¬((2:Int)=5) from by decide,show ¬((2:Int)=6) from by decide,if_false]
   intro aa
   have yx:(Sm.mk 2 (cg 2 s.nm) (bH 2 s.on) (bJ 2 s.od) ys [] [] s.a z).row=[.int .i64 2,.str s.nm,.str s.on,.int .i64 s.od,yv,.U,.U,.int .i64 s.a,.int .i64 z]:=by simp[Sm.row,Sm.rows,cg,bH,bJ,Gc]
   show _=some (AV.agg (Sm.mk 2 (cg 2 s.nm) (bH 2 s.on) (bJ 2 s.od) ys [] [] s.a z).row,_)
   rw[yx]
   generalize bD s.bd=bv at *
   generalize bD s.el=lv at *
   generalize (c.bN W).bC=o at *
   refine ax (sf:=kX) rfl rfl rfl ?_
   simp[-au,-ag,kX,lT,en,e1,e2,b1,b2,l1,l2,wT,Ae,cJ,m1,m2,y1,l5,cV,af,AV.view,AV.an,AV.ah,aC,aQ,bw,aA]
theorem ZE(c:CK)(s:Sm)(hf:c.fe=0)(hw:yA c)(eH:c.V.length+Sm.sz s<1000000000)(hk:s.k=3)(h:ee c.sg.bO s.k s.es=true):yz c s:=by
 unfold yz
 have hz:=Sm.nV s
 have rN:=E.fF s.es
 have lT:=λaa=>jU aa c s (by omega)
 rw[h]at lT
 have en:=λwl aa st=>j7 wl aa st
 have A3:=λaa=>eu aa c s.a []
 have l5:=λaa=>cG aa c []
 rw[decide_eq_true hf]at l5
 have n5:c.bN c.V=c:=rfl
 have dg:=Sm.aG s
 rw[hk]at dg
 rw[nk,h]
 rw[hk]at h ⊢
 simp only[if_true]
 rw[dg]at lT ⊢
 have e1:aJ (aW s.es)=true:=bu
 have e2:(aW s.es).view=aW s.es:=bF
 have b1:aJ (bD s.bd)=true:=bL
 have b2:(bD s.bd).view=bD s.bd:=bR
 have l1:aJ (bD s.el)=true:=bL
 have l2:(bD s.el).view=bD s.el:=bR
 have cJ:=kP c s.es hf (by omega) (λe he=>ig c hf hw e (by have:=E.jj he;omega))
 have uy:Aa c.H c.V 3 s.es=lW c.H c.V s.es:=qV (by decide)
 have DL:j5 c.H 3 s.on s.od=some T0:=if_neg (by decide)
 rw[DL]
 simp only
 rw[uy]
 cases hv:lW c.H c.V s.es with
 |error a=>
  rw[hv]at cJ
  simp only at cJ ⊢
  intro aa
  refine⟨c.V,Z9,qY,?_⟩
  rw[n5]
  obtain⟨v,dV,ev⟩:=cJ 1
  have Dy:=bE dV
  have NO:=cC dV
  have jS:=λaa=>cG aa (c.fail a) []
  rw[decide_eq_false jk]at jS
  generalize aW s.es=kv at *
  generalize bD s.bd=bv at *
  generalize bD s.el=lv at *
  generalize (c.fail a).bC=o at *
  refine ax (sf:=kX) rfl rfl rfl ?_
  simp[-au,-ag,kX,lT,en,e1,e2,b1,b2,l1,l2,ev,dV,jS,af,AV.view,AV.an,AV.ah,aQ,bw]
 |ok ys=>
  rw[hv]at cJ
  simp only at cJ ⊢
  have nW:ee c.sg.bO 3 ys=true:=mG hv h
  obtain⟨fv,⟨z,rfl,mO⟩,cV⟩:=oS 1 c 3 (cg 3 s.nm) (bH 3 s.on) (bJ 3 s.od) ys s.a T0 hw.s nW
  simp only[mH]at mO cV
  have kT:(Sm.mk 3 (cg 3 s.nm) (bH 3 s.on) (bJ 3 s.od) ys [] [] s.a 0).row=[.int .i64 3,.str s.nm,.str [],.int .i64 0,aW ys,.U,.U,.int .i64 s.a,.int .i64 0]:=by simp[Sm.row,Sm.rows,cg,bH,bJ]
  rw[kT]at cV
  have m1:aJ (cD 11 (E.rows ys))=true:=dz
  have m2:(cD 11 (E.rows ys)).view=aW ys:=rfl
  generalize cD 11 (E.rows ys)=mv at *
  have m3:=bE m1
  have m4:=cC m1
  have y1:aJ (aW ys)=true:=bu
  have y2:(aW ys).view=aW ys:=bF
  generalize Gc:aW ys=yv at *
  generalize aW s.es=kv at *
  cases hT:j8 c.H c.sg.br c.V 3 s.nm ys T0 with
  |none=>
   simp only
   intro aa
   refine⟨c.V,Z9,qY,?_⟩
   rw[n5]
   rw[hT]at cV
   simp only[Option.isSome_none,lK]at cV
   generalize bD s.bd=bv at *
   generalize bD s.el=lv at *
   generalize (c.fail s.a).bC=o at *
   refine ax (sf:=kX) rfl rfl rfl ?_
   simp[-au,-ag,kX,lT,en,e1,e2,b1,b2,l1,l2,cJ,m1,m2,l5,cV,A3,af,AV.view,AV.an,AV.ah,aQ,bw]
  |some x=>
   obtain⟨r,W⟩:=x
   have mO:=mO r W hT
   subst mO
   rw[hT]at cV
   simp only[Option.isSome_some,lK]at cV
   have IL:({ c with V:=W }:CK)=c.bN W:=rfl
   rw[IL]at cV
   simp only[show ¬((3:Int)=5) from by decide,show ¬((3:Int)=6) from by decide,if_false]
   intro aa
   have yx:(Sm.mk 3 (cg 3 s.nm) (bH 3 s.on) (bJ 3 s.od) ys [] [] s.a z).row=[.int .i64 3,.str s.nm,.str [],.int .i64 0,yv,.U,.U,.int .i64 s.a,.int .i64 z]:=by simp[Sm.row,Sm.rows,cg,bH,bJ,Gc]
   show _=some (AV.agg (Sm.mk 3 (cg 3 s.nm) (bH 3 s.on) (bJ 3 s.od) ys [] [] s.a z).row,_)
   rw[yx]
   generalize bD s.bd=bv at *
   generalize bD s.el=lv at *
   generalize (c.bN W).bC=o at *
   refine ax (sf:=kX) rfl rfl rfl ?_
   simp[-au,-ag,kX,lT,en,e1,e2,b1,b2,l1,l2,cJ,m1,m2,y1,l5,cV,af,AV.view,AV.an,AV.ah,aQ,bw]
theorem ZF(c:CK)(s:Sm)(hf:c.fe=0)(hw:yA c)(eH:c.V.length+Sm.sz s<1000000000)(hk:s.k=4)(h:ee c.sg.bO s.k s.es=true):yz c s:=by
 unfold yz
 have hz:=Sm.nV s
 have rN:=E.fF s.es
 have lT:=λaa=>jU aa c s (by omega)
 rw[h]at lT
 have en:=λwl aa st=>j7 wl aa st
 have A3:=λaa=>eu aa c s.a []
 have l5:=λaa=>cG aa c []
 rw[decide_eq_true hf]at l5
 have n5:c.bN c.V=c:=rfl
 have dg:=Sm.aG s
 rw[hk]at dg
 rw[nk,h]
 rw[hk]at h ⊢
 simp only[if_true]
 rw[dg]at lT ⊢
 have e1:aJ (aW s.es)=true:=bu
 have e2:(aW s.es).view=aW s.es:=bF
 have b1:aJ (bD s.bd)=true:=bL
 have b2:(bD s.bd).view=bD s.bd:=bR
 have l1:aJ (bD s.el)=true:=bL
 have l2:(bD s.el).view=bD s.el:=bR
 have cJ:=kP c s.es hf (by omega) (λe he=>ig c hf hw e (by have:=E.jj he;omega))
 have uy:Aa c.H c.V 4 s.es=lW c.H c.V s.es:=qV (by decide)
 have DL:j5 c.H 4 s.on s.od=some T0:=if_neg (by decide)
 rw[DL]
 simp only
 rw[uy]
 cases hv:lW c.H c.V s.es with
 |error a=>
  rw[hv]at cJ
  simp only at cJ ⊢
  intro aa
  refine⟨c.V,Z9,qY,?_⟩
  rw[n5]
  obtain⟨v,dV,ev⟩:=cJ 1
  have Dy:=bE dV
  have NO:=cC dV
  have jS:=λaa=>cG aa (c.fail a) []
  rw[decide_eq_false jk]at jS
  generalize aW s.es=kv at *
  generalize bD s.bd=bv at *
  generalize bD s.el=lv at *
  generalize (c.fail a).bC=o at *
  refine ax (sf:=kX) rfl rfl rfl ?_
  simp[-au,-ag,kX,lT,en,e1,e2,b1,b2,l1,l2,ev,dV,jS,af,AV.view,AV.an,AV.ah,aQ,bw]
 |ok ys=>
  rw[hv]at cJ
  simp only at cJ ⊢
  have nW:ee c.sg.bO 4 ys=true:=mG hv h
  obtain⟨fv,⟨z,rfl,mO⟩,cV⟩:=oS 1 c 4 (cg 4 s.nm) (bH 4 s.on) (bJ 4 s.od) ys s.a T0 hw.s nW
  simp only[mH]at mO cV
  have kT:(Sm.mk 4 (cg 4 s.nm) (bH 4 s.on) (bJ 4 s.od) ys [] [] s.a 0).row=[.int .i64 4,.str [],.str [],.int .i64 0,aW ys,.U,.U,.int .i64 s.a,.int .i64 0]:=by simp[Sm.row,Sm.rows,cg,bH,bJ]
  rw[kT]at cV
  have m1:aJ (cD 11 (E.rows ys))=true:=dz
  have m2:(cD 11 (E.rows ys)).view=aW ys:=rfl
  generalize cD 11 (E.rows ys)=mv at *
  have m3:=bE m1
  have m4:=cC m1
  have y1:aJ (aW ys)=true:=bu
  have y2:(aW ys).view=aW ys:=bF
  generalize Gc:aW ys=yv at *
  generalize aW s.es=kv at *
  cases hT:j8 c.H c.sg.br c.V 4 s.nm ys T0 with
  |none=>
   simp only
   intro aa
   refine⟨c.V,Z9,qY,?_⟩
   rw[n5]
   rw[hT]at cV
   simp only[Option.isSome_none,lK]at cV
   generalize bD s.bd=bv at *
   generalize bD s.el=lv at *
   generalize (c.fail s.a).bC=o at *
   refine ax (sf:=kX) rfl rfl rfl ?_
   simp[-au,-ag,kX,lT,en,e1,e2,b1,b2,l1,l2,cJ,m1,m2,l5,cV,A3,af,AV.view,AV.an,AV.ah,aQ,bw]
  |some x=>
   obtain⟨r,W⟩:=x
   have mO:=mO r W hT
   subst mO
   rw[hT]at cV
   simp only[Option.isSome_some,lK]at cV
   have IL:({ c with V:=W }:CK)=c.bN W:=rfl
   rw[IL]at cV
   simp only[show ¬((4:Int)=5) from by decide,show ¬((4:Int)=6) from by decide,if_false]
   intro aa
   have yx:(Sm.mk 4 (cg 4 s.nm) (bH 4 s.on) (bJ 4 s.od) ys [] [] s.a z).row=[.int .i64 4,.str [],.str [],.int .i64 0,yv,.U,.U,.int .i64 s.a,.int .i64 z]:=by simp[Sm.row,Sm.rows,cg,bH,bJ,Gc]
   show _=some (AV.agg (Sm.mk 4 (cg 4 s.nm) (bH 4 s.on) (bJ 4 s.od) ys [] [] s.a z).row,_)
   rw[yx]
   generalize bD s.bd=bv at *
   generalize bD s.el=lv at *
   generalize (c.bN W).bC=o at *
   refine ax (sf:=kX) rfl rfl rfl ?_
   simp[-au,-ag,kX,lT,en,e1,e2,b1,b2,l1,l2,cJ,m1,m2,y1,l5,cV,af,AV.view,AV.an,AV.ah,aQ,bw]
end K9
namespace K9
open Ax Go cz V7 kL lV
theorem ZG(c:CK)(s:Sm)(hf:c.fe=0)(hw:yA c)(eH:c.V.length+Sm.sz s<1000000000)(hk:s.k=5)(h:ee c.sg.bO s.k s.es=true)(CW:∀d:CK,d.H=c.H->d.sg=c.sg->d.fe=0->yA d->d.V.length+Sm.eA s.bd<1000000000->Kz d s.bd)(NS:∀d:CK,d.H=c.H->d.sg=c.sg->d.fe=0->yA d->d.V.length+Sm.eA s.el<1000000000->Kz d s.el):yz c s:=by
 unfold yz
 have hz:=Sm.nV s
 have rN:=E.fF s.es
 have lT:=λaa=>jU aa c s (by omega)
 rw[h]at lT
 have en:=λwl aa st=>j7 wl aa st
 have A3:=λaa=>eu aa c s.a []
 have l5:=λaa=>cG aa c []
 rw[decide_eq_true hf]at l5
 have n5:c.bN c.V=c:=rfl
 have dg:=Sm.aG s
 rw[hk]at dg
 rw[nk,h]
 rw[hk]at h ⊢
 simp only[if_true]
 rw[dg]at lT ⊢
 have e1:aJ (aW s.es)=true:=bu
 have e2:(aW s.es).view=aW s.es:=bF
 have b1:aJ (bD s.bd)=true:=bL
 have b2:(bD s.bd).view=bD s.bd:=bR
 have l1:aJ (bD s.el)=true:=bL
 have l2:(bD s.el).view=bD s.el:=bR
 have cJ:=kP c s.es hf (by omega) (λe he=>ig c hf hw e (by have:=E.jj he;omega))
 have uy:Aa c.H c.V 5 s.es=lW c.H c.V s.es:=qV (by decide)
 have DL:j5 c.H 5 s.on s.od=some T0:=if_neg (by decide)
 rw[DL]
 simp only
 rw[uy]
 cases hv:lW c.H c.V s.es with
 |error a=>
  rw[hv]at cJ
  simp only at cJ ⊢
  intro aa
  refine⟨c.V,Z9,qY,?_⟩
  rw[n5]
  obtain⟨v,dV,ev⟩:=cJ 1
  have Dy:=bE dV
  have NO:=cC dV
  have jS:=λaa=>cG aa (c.fail a) []
  rw[decide_eq_false jk]at jS
  generalize aW s.es=kv at *
  generalize bD s.bd=bv at *
  generalize bD s.el=lv at *
  generalize (c.fail a).bC=o at *
  refine ax (sf:=kX) rfl rfl rfl ?_
  simp[-au,-ag,kX,lT,en,e1,e2,b1,b2,l1,l2,ev,dV,jS,af,AV.view,AV.an,AV.ah,aQ,bw]
 |ok ys=>
  rw[hv]at cJ
  simp only at cJ ⊢
  have nW:ee c.sg.bO 5 ys=true:=mG hv h
  obtain⟨fv,⟨z,rfl,mO⟩,cV⟩:=oS 1 c 5 (cg 5 s.nm) (bH 5 s.on) (bJ 5 s.od) ys s.a T0 hw.s nW
  simp only[mH]at mO cV
  have kT:(Sm.mk 5 (cg 5 s.nm) (bH 5 s.on) (bJ 5 s.od) ys [] [] s.a 0).row=[.int .i64 5,.str [],.str [],.int .i64 0,aW ys,.U,.U,.int .i64 s.a,.int .i64 0]:=by simp[Sm.row,Sm.rows,cg,bH,bJ]
  rw[kT]at cV
  have m1:aJ (cD 11 (E.rows ys))=true:=dz
  have m2:(cD 11 (E.rows ys)).view=aW ys:=rfl
  generalize cD 11 (E.rows ys)=mv at *
  have m3:=bE m1
  have m4:=cC m1
  have y1:aJ (aW ys)=true:=bu
  have y2:(aW ys).view=aW ys:=bF
  generalize Gc:aW ys=yv at *
  generalize aW s.es=kv at *
  cases hT:j8 c.H c.sg.br c.V 5 s.nm ys T0 with
  |none=>
   simp only
   intro aa
   refine⟨c.V,Z9,qY,?_⟩
   rw[n5]
   rw[hT]at cV
   simp only[Option.isSome_none,lK]at cV
   generalize bD s.bd=bv at *
   generalize bD s.el=lv at *
   generalize (c.fail s.a).bC=o at *
   refine ax (sf:=kX) rfl rfl rfl ?_
   simp[-au,-ag,kX,lT,en,e1,e2,b1,b2,l1,l2,cJ,m1,m2,l5,cV,A3,af,AV.view,AV.an,AV.ah,aQ,bw]
  |some x=>
   obtain⟨r,W⟩:=x
   have mO:=mO r W hT
   subst mO
   rw[hT]at cV
   simp only[Option.isSome_some,lK]at cV
   have IL:({ c with V:=W }:CK)=c.bN W:=rfl
   rw[IL]at cV
   have hfw:=Im hT
   have Xh:W=c.V:=by
    rcases hfw with e|⟨e,_⟩
    ·exact e
    ·rcases e with e|e<;>cases e
   have hwW:yA (c.bN W):=by rw[Xh];exact hw
   have Tu:=Sm.fF s.bd
   have hll:=Sm.fF s.el
   have hB:=CW (c.bN W) rfl rfl hf hwW (by show W.length+_<_;rw[Xh];omega)
   unfold Kz at hB
   have KF:kF (c.bN W).H (c.bN W).sg.bO (c.bN W).sg.br (c.bN W).V s.bd=kF c.H c.sg.bO c.sg.br W s.bd:=rfl
   rw[KF]at hB
   dsimp only
   cases hb:kF c.H c.sg.bO c.sg.br W s.bd with
   |error a=>
    rw[hb]at hB
    simp only at hB ⊢
    intro aa
    obtain⟨W',v,v1,ev⟩:=hB 1
    have x9:(c.bN W).bN W'=c.bN W':=rfl
    rw[x9]at ev
    have v3:=bE v1
    have v4:=cC v1
    have v5:aJ v.view=true:=by rw[rD];exact v1
    have eB:=λaa=>EH aa ((c.bN W').fail a) s.el jk (by omega)
    refine⟨W',[.int .i64 5,.str [],.str [],.int .i64 0,yv,v.view,.U,.int .i64 s.a,.int .i64 z],⟨_,_,_,_,_,_,_,_,_,rfl,y1,v5,rfl⟩,?_⟩
    generalize bD s.bd=bv at *
    generalize bD s.el=lv at *
    generalize (c.bN W).bC=o at *
    generalize ((c.bN W').fail a).bC=o2 at *
    refine ax (sf:=kX) rfl rfl rfl ?_
    simp[-au,-ag,kX,lT,en,e1,e2,b1,b2,l1,l2,cJ,m1,m2,y1,l5,cV,ev,v1,v5,eB,af,AV.view,AV.an,AV.ah,aQ,bw]
   |ok x=>
    obtain⟨bs,W1⟩:=x
    rw[hb]at hB
    simp only at hB ⊢
    have x9:(c.bN W).bN W1=c.bN W1:=rfl
    rw[x9]at hB
    have q1:aJ (cD 9 (Sm.rows bs))=true:=dz
    have q2:(cD 9 (Sm.rows bs)).view=bD bs:=rfl
    have q3:=bE q1
    have q4:=cC q1
    have q5:aJ (bD bs)=true:=bL
    obtain⟨w1,w2⟩:=Rl (by rw[Xh];exact hw.V) hb
    have ajq:yA (c.bN W1):=Ga hw w1 (by rw[Xh]at w2;omega)
    have hL:=NS (c.bN W1) rfl rfl hf ajq (by show W1.length+_<_;rw[Xh]at w2;omega)
    unfold Kz at hL
    have KF:kF (c.bN W1).H (c.bN W1).sg.bO (c.bN W1).sg.br (c.bN W1).V s.el=kF c.H c.sg.bO c.sg.br W1 s.el:=rfl
    rw[KF]at hL
    generalize cD 9 (Sm.rows bs)=mb at *
    cases hc:kF c.H c.sg.bO c.sg.br W1 s.el with
    |error a=>
     rw[hc]at hL
     simp only at hL ⊢
     intro aa
     obtain⟨W',v,v1,ev⟩:=hL 1
     have x9:(c.bN W1).bN W'=c.bN W':=rfl
     rw[x9]at ev
     have v3:=bE v1
     have v4:=cC v1
     have v5:aJ v.view=true:=by rw[rD];exact v1
     refine⟨W',[.int .i64 5,.str [],.str [],.int .i64 0,yv,bD bs,v.view,.int .i64 s.a,.int .i64 z],⟨_,_,_,_,_,_,_,_,_,rfl,y1,q5,v5⟩,?_⟩
     generalize bD bs=bsv at *
     generalize bD s.bd=bv at *
     generalize bD s.el=lv at *
     generalize (c.bN W).bC=o at *
     generalize (c.bN W1).bC=o2 at *
     generalize ((c.bN W').fail a).bC=o3 at *
     refine ax (sf:=kX) rfl rfl rfl ?_
     simp[-au,-ag,kX,lT,en,e1,e2,b1,b2,l1,l2,cJ,m1,m2,y1,l5,cV,hB,ev,v1,v5,q1,q2,q5,af,AV.view,AV.an,AV.ah,aQ,bw]
    |ok x=>
     obtain⟨ls,W2⟩:=x
     rw[hc]at hL
     simp only at hL ⊢
     have x9:(c.bN W1).bN W2=c.bN W2:=rfl
     rw[x9]at hL
     have p1:aJ (cD 9 (Sm.rows ls))=true:=dz
     have p2:(cD 9 (Sm.rows ls)).view=bD ls:=rfl
     have p3:=bE p1
     have p4:=cC p1
     have p5:aJ (bD ls)=true:=bL
     intro aa
     have yx:(Sm.mk 5 (cg 5 s.nm) (bH 5 s.on) (bJ 5 s.od) ys bs ls s.a z).row=[.int .i64 5,.str [],.str [],.int .i64 0,yv,bD bs,bD ls,.int .i64 s.a,.int .i64 z]:=by simp[Sm.row,cg,bH,bJ,Gc,bD]
     show _=some (AV.agg (Sm.mk 5 (cg 5 s.nm) (bH 5 s.on) (bJ 5 s.od) ys bs ls s.a z).row,_)
     rw[yx]
     generalize cD 9 (Sm.rows ls)=ml at *
     generalize bD bs=bsv at *
     generalize bD ls=lsv at *
     generalize bD s.bd=bv at *
     generalize bD s.el=lv at *
     generalize (c.bN W).bC=o at *
     generalize (c.bN W1).bC=o2 at *
     generalize (c.bN W2).bC=o3 at *
     refine ax (sf:=kX) rfl rfl rfl ?_
     simp[-au,-ag,kX,lT,en,e1,e2,b1,b2,l1,l2,cJ,m1,m2,y1,l5,cV,hB,hL,q1,q2,q5,p1,p2,p5,af,AV.view,AV.an,AV.ah,aQ,bw]
theorem ZH(c:CK)(s:Sm)(hf:c.fe=0)(hw:yA c)(eH:c.V.length+Sm.sz s<1000000000)(hk:s.k=6)(h:ee c.sg.bO s.k s.es=true)(CW:∀d:CK,d.H=c.H->d.sg=c.sg->d.fe=0->yA d->d.V.length+Sm.eA s.bd<1000000000->Kz d s.bd):yz c s:=by
 unfold yz
 have hz:=Sm.nV s
 have rN:=E.fF s.es
 have lT:=λaa=>jU aa c s (by omega)
 rw[h]at lT
 have en:=λwl aa st=>j7 wl aa st
 have A3:=λaa=>eu aa c s.a []
 have l5:=λaa=>cG aa c []
 rw[decide_eq_true hf]at l5
 have n5:c.bN c.V=c:=rfl
 have dg:=Sm.aG s
 rw[hk]at dg
 rw[nk,h]
 rw[hk]at h ⊢
 simp only[if_true]
 rw[dg]at lT ⊢
 have e1:aJ (aW s.es)=true:=bu
 have e2:(aW s.es).view=aW s.es:=bF
 have b1:aJ (bD s.bd)=true:=bL
 have b2:(bD s.bd).view=bD s.bd:=bR
 have l1:aJ (bD s.el)=true:=bL
 have l2:(bD s.el).view=bD s.el:=bR
 have cJ:=kP c s.es hf (by omega) (λe he=>ig c hf hw e (by have:=E.jj he;omega))
 have uy:Aa c.H c.V 6 s.es=lW c.H c.V s.es:=qV (by decide)
 have DL:j5 c.H 6 s.on s.od=some T0:=if_neg (by decide)
 rw[DL]
 simp only
 rw[uy]
 cases hv:lW c.H c.V s.es with
 |error a=>
  rw[hv]at cJ
  simp only at cJ ⊢
  intro aa
  refine⟨c.V,Z9,qY,?_⟩
  rw[n5]
  obtain⟨v,dV,ev⟩:=cJ 1
  have Dy:=bE dV
  have NO:=cC dV
  have jS:=λaa=>cG aa (c.fail a) []
  rw[decide_eq_false jk]at jS
  generalize aW s.es=kv at *
  generalize bD s.bd=bv at *
  generalize bD s.el=lv at *
  generalize (c.fail a).bC=o at *
  refine ax (sf:=kX) rfl rfl rfl ?_
  simp[-au,-ag,kX,lT,en,e1,e2,b1,b2,l1,l2,ev,dV,jS,af,AV.view,AV.an,AV.ah,aQ,bw]
 |ok ys=>
  rw[hv]at cJ
  simp only at cJ ⊢
  have nW:ee c.sg.bO 6 ys=true:=mG hv h
  obtain⟨fv,⟨z,rfl,mO⟩,cV⟩:=oS 1 c 6 (cg 6 s.nm) (bH 6 s.on) (bJ 6 s.od) ys s.a T0 hw.s nW
  simp only[mH]at mO cV
  have kT:(Sm.mk 6 (cg 6 s.nm) (bH 6 s.on) (bJ 6 s.od) ys [] [] s.a 0).row=[.int .i64 6,.str [],.str [],.int .i64 0,aW ys,.U,.U,.int .i64 s.a,.int .i64 0]:=by simp[Sm.row,Sm.rows,cg,bH,bJ]
  rw[kT]at cV
  have m1:aJ (cD 11 (E.rows ys))=true:=dz
  have m2:(cD 11 (E.rows ys)).view=aW ys:=rfl
  generalize cD 11 (E.rows ys)=mv at *
  have m3:=bE m1
  have m4:=cC m1
  have y1:aJ (aW ys)=true:=bu
  have y2:(aW ys).view=aW ys:=bF
  generalize Gc:aW ys=yv at *
  generalize aW s.es=kv at *
  cases hT:j8 c.H c.sg.br c.V 6 s.nm ys T0 with
  |none=>
   simp only
   intro aa
   refine⟨c.V,Z9,qY,?_⟩
   rw[n5]
   rw[hT]at cV
   simp only[Option.isSome_none,lK]at cV
   generalize bD s.bd=bv at *
   generalize bD s.el=lv at *
   generalize (c.fail s.a).bC=o at *
   refine ax (sf:=kX) rfl rfl rfl ?_
   simp[-au,-ag,kX,lT,en,e1,e2,b1,b2,l1,l2,cJ,m1,m2,l5,cV,A3,af,AV.view,AV.an,AV.ah,aQ,bw]
  |some x=>
   obtain⟨r,W⟩:=x
   have mO:=mO r W hT
   subst mO
   rw[hT]at cV
   simp only[Option.isSome_some,lK]at cV
   have IL:({ c with V:=W }:CK)=c.bN W:=rfl
   rw[IL]at cV
   have hfw:=Im hT
   have Xh:W=c.V:=by
    rcases hfw with e|⟨e,_⟩
    ·exact e
    ·rcases e with e|e<;>cases e
   have hwW:yA (c.bN W):=by rw[Xh];exact hw
   have Tu:=Sm.fF s.bd
   have hll:=Sm.fF s.el
   have hB:=CW (c.bN W) rfl rfl hf hwW (by show W.length+_<_;rw[Xh];omega)
   unfold Kz at hB
   have KF:kF (c.bN W).H (c.bN W).sg.bO (c.bN W).sg.br (c.bN W).V s.bd=kF c.H c.sg.bO c.sg.br W s.bd:=rfl
   rw[KF]at hB
   simp only[show ¬((6:Int)=5) from by decide,if_false]
   cases hb:kF c.H c.sg.bO c.sg.br W s.bd with
   |error a=>
    rw[hb]at hB
    simp only at hB ⊢
    intro aa
    obtain⟨W',v,v1,ev⟩:=hB 1
    have x9:(c.bN W).bN W'=c.bN W':=rfl
    rw[x9]at ev
    have v3:=bE v1
    have v4:=cC v1
    have v5:aJ v.view=true:=by rw[rD];exact v1
    have eB:=λaa=>EH aa ((c.bN W').fail a) s.el jk (by omega)
    refine⟨W',[.int .i64 6,.str [],.str [],.int .i64 0,yv,v.view,.U,.int .i64 s.a,.int .i64 z],⟨_,_,_,_,_,_,_,_,_,rfl,y1,v5,rfl⟩,?_⟩
    generalize bD s.bd=bv at *
    generalize bD s.el=lv at *
    generalize (c.bN W).bC=o at *
    generalize ((c.bN W').fail a).bC=o2 at *
    refine ax (sf:=kX) rfl rfl rfl ?_
    simp[-au,-ag,kX,lT,en,e1,e2,b1,b2,l1,l2,cJ,m1,m2,y1,l5,cV,ev,v1,v5,af,AV.view,AV.an,AV.ah,aQ,bw]
   |ok x=>
    obtain⟨bs,W1⟩:=x
    rw[hb]at hB
    simp only at hB ⊢
    have x9:(c.bN W).bN W1=c.bN W1:=rfl
    rw[x9]at hB
    have q1:aJ (cD 9 (Sm.rows bs))=true:=dz
    have q2:(cD 9 (Sm.rows bs)).view=bD bs:=rfl
    have q3:=bE q1
    have q4:=cC q1
    have q5:aJ (bD bs)=true:=bL
    intro aa
    have yx:(Sm.mk 6 (cg 6 s.nm) (bH 6 s.on) (bJ 6 s.od) ys bs [] s.a z).row=[.int .i64 6,.str [],.str [],.int .i64 0,yv,bD bs,.U,.int .i64 s.a,.int .i64 z]:=by simp[Sm.row,Sm.rows,cg,bH,bJ,Gc,bD]
    show _=some (AV.agg (Sm.mk 6 (cg 6 s.nm) (bH 6 s.on) (bJ 6 s.od) ys bs [] s.a z).row,_)
    rw[yx]
    generalize cD 9 (Sm.rows bs)=mb at *
    generalize bD bs=bsv at *
    generalize bD s.bd=bv at *
    generalize bD s.el=lv at *
    generalize (c.bN W).bC=o at *
    generalize (c.bN W1).bC=o2 at *
    refine ax (sf:=kX) rfl rfl rfl ?_
    simp[-au,-ag,kX,lT,en,e1,e2,b1,b2,l1,l2,cJ,m1,m2,y1,l5,cV,hB,q1,q2,q5,af,AV.view,AV.an,AV.ah,aQ,bw]
theorem ZI(c:CK)(s:Sm)(hf:c.fe=0)(hw:yA c)(eH:c.V.length+Sm.sz s<1000000000)(hk:s.k=7)(h:ee c.sg.bO s.k s.es=true):yz c s:=by
 unfold yz
 have hz:=Sm.nV s
 have rN:=E.fF s.es
 have lT:=λaa=>jU aa c s (by omega)
 rw[h]at lT
 have en:=λwl aa st=>j7 wl aa st
 have A3:=λaa=>eu aa c s.a []
 have l5:=λaa=>cG aa c []
 rw[decide_eq_true hf]at l5
 have n5:c.bN c.V=c:=rfl
 have dg:=Sm.aG s
 rw[hk]at dg
 rw[nk,h]
 rw[hk]at h ⊢
 simp only[if_true]
 rw[dg]at lT ⊢
 have e1:aJ (aW s.es)=true:=bu
 have e2:(aW s.es).view=aW s.es:=bF
 have b1:aJ (bD s.bd)=true:=bL
 have b2:(bD s.bd).view=bD s.bd:=bR
 have l1:aJ (bD s.el)=true:=bL
 have l2:(bD s.el).view=bD s.el:=bR
 have cJ:=kP c s.es hf (by omega) (λe he=>ig c hf hw e (by have:=E.jj he;omega))
 have uy:Aa c.H c.V 7 s.es=lW c.H c.V s.es:=qV (by decide)
 have DL:j5 c.H 7 s.on s.od=some T0:=if_neg (by decide)
 rw[DL]
 simp only
 rw[uy]
 cases hv:lW c.H c.V s.es with
 |error a=>
  rw[hv]at cJ
  simp only at cJ ⊢
  intro aa
  refine⟨c.V,Z9,qY,?_⟩
  rw[n5]
  obtain⟨v,dV,ev⟩:=cJ 1
  have Dy:=bE dV
  have NO:=cC dV
  have jS:=λaa=>cG aa (c.fail a) []
  rw[decide_eq_false jk]at jS
  generalize aW s.es=kv at *
  generalize bD s.bd=bv at *
  generalize bD s.el=lv at *
  generalize (c.fail a).bC=o at *
  refine ax (sf:=kX) rfl rfl rfl ?_
  simp[-au,-ag,kX,lT,en,e1,e2,b1,b2,l1,l2,ev,dV,jS,af,AV.view,AV.an,AV.ah,aQ,bw]
 |ok ys=>
  rw[hv]at cJ
  simp only at cJ ⊢
  have nW:ee c.sg.bO 7 ys=true:=mG hv h
  obtain⟨fv,⟨z,rfl,mO⟩,cV⟩:=oS 1 c 7 (cg 7 s.nm) (bH 7 s.on) (bJ 7 s.od) ys s.a T0 hw.s nW
  simp only[mH]at mO cV
  have kT:(Sm.mk 7 (cg 7 s.nm) (bH 7 s.on) (bJ 7 s.od) ys [] [] s.a 0).row=[.int .i64 7,.str [],.str [],.int .i64 0,aW ys,.U,.U,.int .i64 s.a,.int .i64 0]:=by simp[Sm.row,Sm.rows,cg,bH,bJ]
  rw[kT]at cV
  have m1:aJ (cD 11 (E.rows ys))=true:=dz
  have m2:(cD 11 (E.rows ys)).view=aW ys:=rfl
  generalize cD 11 (E.rows ys)=mv at *
  have m3:=bE m1
  have m4:=cC m1
  have y1:aJ (aW ys)=true:=bu
  have y2:(aW ys).view=aW ys:=bF
  generalize Gc:aW ys=yv at *
  generalize aW s.es=kv at *
  cases hT:j8 c.H c.sg.br c.V 7 s.nm ys T0 with
  |none=>
   simp only
   intro aa
   refine⟨c.V,Z9,qY,?_⟩
   rw[n5]
   rw[hT]at cV
   simp only[Option.isSome_none,lK]at cV
   generalize bD s.bd=bv at *
   generalize bD s.el=lv at *
   generalize (c.fail s.a).bC=o at *
   refine ax (sf:=kX) rfl rfl rfl ?_
   simp[-au,-ag,kX,lT,en,e1,e2,b1,b2,l1,l2,cJ,m1,m2,l5,cV,A3,af,AV.view,AV.an,AV.ah,aQ,bw]
  |some x=>
   obtain⟨r,W⟩:=x
   have mO:=mO r W hT
   subst mO
   rw[hT]at cV
   simp only[Option.isSome_some,lK]at cV
   have IL:({ c with V:=W }:CK)=c.bN W:=rfl
   rw[IL]at cV
   simp only[show ¬((7:Int)=5) from by decide,show ¬((7:Int)=6) from by decide,if_false]
   intro aa
   have yx:(Sm.mk 7 (cg 7 s.nm) (bH 7 s.on) (bJ 7 s.od) ys [] [] s.a z).row=[.int .i64 7,.str [],.str [],.int .i64 0,yv,.U,.U,.int .i64 s.a,.int .i64 z]:=by simp[Sm.row,Sm.rows,cg,bH,bJ,Gc]
   show _=some (AV.agg (Sm.mk 7 (cg 7 s.nm) (bH 7 s.on) (bJ 7 s.od) ys [] [] s.a z).row,_)
   rw[yx]
   generalize bD s.bd=bv at *
   generalize bD s.el=lv at *
   generalize (c.bN W).bC=o at *
   refine ax (sf:=kX) rfl rfl rfl ?_
   simp[-au,-ag,kX,lT,en,e1,e2,b1,b2,l1,l2,cJ,m1,m2,y1,l5,cV,af,AV.view,AV.an,AV.ah,aQ,bw]
theorem ZJ(c:CK)(s:Sm)(hf:c.fe=0)(hw:yA c)(eH:c.V.length+Sm.sz s<1000000000)(hk:s.k=8)(h:ee c.sg.bO s.k s.es=true):yz c s:=by
 unfold yz
 have hz:=Sm.nV s
 have rN:=E.fF s.es
 have lT:=λaa=>jU aa c s (by omega)
 rw[h]at lT
 have en:=λwl aa st=>j7 wl aa st
 have A3:=λaa=>eu aa c s.a []
 have l5:=λaa=>cG aa c []
 rw[decide_eq_true hf]at l5
 have n5:c.bN c.V=c:=rfl
 have dg:=Sm.aG s
 rw[hk]at dg
 rw[nk,h]
 rw[hk]at h ⊢
 simp only[if_true]
 rw[dg]at lT ⊢
 have e1:aJ (aW s.es)=true:=bu
 have e2:(aW s.es).view=aW s.es:=bF
 have b1:aJ (bD s.bd)=true:=bL
 have b2:(bD s.bd).view=bD s.bd:=bR
 have l1:aJ (bD s.el)=true:=bL
 have l2:(bD s.el).view=bD s.el:=bR
 have cJ:=kP c s.es hf (by omega) (λe he=>ig c hf hw e (by have:=E.jj he;omega))
 have uy:Aa c.H c.V 8 s.es=lW c.H c.V s.es:=qV (by decide)
 have DL:j5 c.H 8 s.on s.od=some T0:=if_neg (by decide)
 rw[DL]
 simp only
 rw[uy]
 cases hv:lW c.H c.V s.es with
 |error a=>
  rw[hv]at cJ
  simp only at cJ ⊢
  intro aa
  refine⟨c.V,Z9,qY,?_⟩
  rw[n5]
  obtain⟨v,dV,ev⟩:=cJ 1
  have Dy:=bE dV
  have NO:=cC dV
  have jS:=λaa=>cG aa (c.fail a) []
  rw[decide_eq_false jk]at jS
  generalize aW s.es=kv at *
  generalize bD s.bd=bv at *
  generalize bD s.el=lv at *
  generalize (c.fail a).bC=o at *
  refine ax (sf:=kX) rfl rfl rfl ?_
  simp[-au,-ag,kX,lT,en,e1,e2,b1,b2,l1,l2,ev,dV,jS,af,AV.view,AV.an,AV.ah,aQ,bw]
 |ok ys=>
  rw[hv]at cJ
  simp only at cJ ⊢
  have nW:ee c.sg.bO 8 ys=true:=mG hv h
  obtain⟨fv,⟨z,rfl,mO⟩,cV⟩:=oS 1 c 8 (cg 8 s.nm) (bH 8 s.on) (bJ 8 s.od) ys s.a T0 hw.s nW
  simp only[mH]at mO cV
  have kT:(Sm.mk 8 (cg 8 s.nm) (bH 8 s.on) (bJ 8 s.od) ys [] [] s.a 0).row=[.int .i64 8,.str [],.str [],.int .i64 0,aW ys,.U,.U,.int .i64 s.a,.int .i64 0]:=by simp[Sm.row,Sm.rows,cg,bH,bJ]
  rw[kT]at cV
  have m1:aJ (cD 11 (E.rows ys))=true:=dz
  have m2:(cD 11 (E.rows ys)).view=aW ys:=rfl
  generalize cD 11 (E.rows ys)=mv at *
  have m3:=bE m1
  have m4:=cC m1
  have y1:aJ (aW ys)=true:=bu
  have y2:(aW ys).view=aW ys:=bF
  generalize Gc:aW ys=yv at *
  generalize aW s.es=kv at *
  cases hT:j8 c.H c.sg.br c.V 8 s.nm ys T0 with
  |none=>
   simp only
   intro aa
   refine⟨c.V,Z9,qY,?_⟩
   rw[n5]
   rw[hT]at cV
   simp only[Option.isSome_none,lK]at cV
   generalize bD s.bd=bv at *
   generalize bD s.el=lv at *
   generalize (c.fail s.a).bC=o at *
   refine ax (sf:=kX) rfl rfl rfl ?_
   simp[-au,-ag,kX,lT,en,e1,e2,b1,b2,l1,l2,cJ,m1,m2,l5,cV,A3,af,AV.view,AV.an,AV.ah,aQ,bw]
  |some x=>
   obtain⟨r,W⟩:=x
   have mO:=mO r W hT
   subst mO
   rw[hT]at cV
   simp only[Option.isSome_some,lK]at cV
   have IL:({ c with V:=W }:CK)=c.bN W:=rfl
   rw[IL]at cV
   simp only[show ¬((8:Int)=5) from by decide,show ¬((8:Int)=6) from by decide,if_false]
   intro aa
   have yx:(Sm.mk 8 (cg 8 s.nm) (bH 8 s.on) (bJ 8 s.od) ys [] [] s.a z).row=[.int .i64 8,.str [],.str [],.int .i64 0,yv,.U,.U,.int .i64 s.a,.int .i64 z]:=by simp[Sm.row,Sm.rows,cg,bH,bJ,Gc]
   show _=some (AV.agg (Sm.mk 8 (cg 8 s.nm) (bH 8 s.on) (bJ 8 s.od) ys [] [] s.a z).row,_)
   rw[yx]
   generalize bD s.bd=bv at *
   generalize bD s.el=lv at *
   generalize (c.bN W).bC=o at *
   refine ax (sf:=kX) rfl rfl rfl ?_
   simp[-au,-ag,kX,lT,en,e1,e2,b1,b2,l1,l2,cJ,m1,m2,y1,l5,cV,af,AV.view,AV.an,AV.ah,aQ,bw]
theorem ZK(c:CK)(s:Sm)(hf:c.fe=0)(hw:yA c)(eH:c.V.length+Sm.sz s<1000000000)(hk:s.k=9)(h:ee c.sg.bO s.k s.es=true):yz c s:=by
 unfold yz
 have hz:=Sm.nV s
 have rN:=E.fF s.es
 have lT:=λaa=>jU aa c s (by omega)
 rw[h]at lT
 have en:=λwl aa st=>j7 wl aa st
 have A3:=λaa=>eu aa c s.a []
 have l5:=λaa=>cG aa c []
 rw[decide_eq_true hf]at l5
 have n5:c.bN c.V=c:=rfl
 have dg:=Sm.aG s
 rw[hk]at dg
 rw[nk,h]
 rw[hk]at h ⊢
 simp only[if_true]
 rw[dg]at lT ⊢
 have e1:aJ (aW s.es)=true:=bu
 have e2:(aW s.es).view=aW s.es:=bF
 have b1:aJ (bD s.bd)=true:=bL
 have b2:(bD s.bd).view=bD s.bd:=bR
 have l1:aJ (bD s.el)=true:=bL
 have l2:(bD s.el).view=bD s.el:=bR
 obtain⟨e,qe,hek⟩:=Kv h
 have hze:dc 11 (aW s.es)=true:=qX
 have fH:aZ (aW s.es)=E.rows s.es:=aT
 have hX:=ig c hf hw e (by have:E.sz e<=E.eA s.es:=E.jj (by rw[qe];exact List.mem_cons_self);omega)
 unfold OkX at hX
 have uy:Aa c.H c.V 9 s.es=match vo c.H c.V e with|.error x=>.error x|.ok y=>.ok [y]:=by rw[qe];exact Rm
 rw[show E.rows s.es=E.rows [e] from by rw[qe]]at fH
 simp only[E.rows,E.aG]at fH
 have DL:j5 c.H 9 s.on s.od=some T0:=if_neg (by decide)
 rw[DL]
 simp only
 rw[uy]
 cases hv:vo c.H c.V e with
 |error a=>
  rw[hv]at hX
  simp only at hX ⊢
  intro aa
  refine⟨c.V,Z9,qY,?_⟩
  rw[n5]
  obtain⟨y,ev⟩:=hX 1
  have jS:=λaa=>cG aa (c.fail a) []
  rw[decide_eq_false jk]at jS
  rw[E.aG e,E.aG y]at ev
  generalize aW s.es=kv at *
  generalize bD s.bd=bv at *
  generalize bD s.el=lv at *
  generalize (c.fail a).bC=o at *
  refine ax (sf:=kX) rfl rfl rfl ?_
  simp[-au,-ag,kX,lT,en,e1,e2,b1,b2,l1,l2,hze,fH,bP,ev,jS,af,AV.view,AV.an,AV.ah,aQ,bw]
 |ok y=>
  rw[hv]at hX
  simp only at hX ⊢
  have nW:ee c.sg.bO 9 [y]=true:=by simp[ee,L8 hv,hek]
  obtain⟨fv,⟨z,rfl,mO⟩,cV⟩:=oS 1 c 9 (cg 9 s.nm) (bH 9 s.on) (bJ 9 s.od) [y] s.a T0 hw.s nW
  simp only[mH]at mO cV
  have kT:(Sm.mk 9 (cg 9 s.nm) (bH 9 s.on) (bJ 9 s.od) [y] [] [] s.a 0).row=[.int .i64 9,.str [],.str [],.int .i64 0,aW [y],.U,.U,.int .i64 s.a,.int .i64 0]:=by simp[Sm.row,Sm.rows,cg,bH,bJ]
  rw[kT]at cV
  have Gc:aW [y]=.dj 11 [y.row]:=by simp[aW,E.rows]
  rw[Gc]at cV
  rw[E.aG y]at cV hX Gc
  rw[E.aG e]at hX
  generalize aW s.es=kv at *
  cases hT:j8 c.H c.sg.br c.V 9 s.nm [y] T0 with
  |none=>
   simp only
   intro aa
   refine⟨c.V,Z9,qY,?_⟩
   rw[n5]
   rw[hT]at cV
   simp only[Option.isSome_none,lK]at cV
   generalize bD s.bd=bv at *
   generalize bD s.el=lv at *
   generalize (c.fail s.a).bC=o at *
   refine ax (sf:=kX) rfl rfl rfl ?_
   simp[-au,-ag,kX,lT,en,e1,e2,b1,b2,l1,l2,hze,fH,bP,hX,l5,cV,A3,af,AV.view,AV.an,AV.ah,aQ,bw]
  |some x=>
   obtain⟨r,W⟩:=x
   have mO:=mO r W hT
   subst mO
   rw[hT]at cV
   simp only[Option.isSome_some,lK]at cV
   have IL:({ c with V:=W }:CK)=c.bN W:=rfl
   rw[IL]at cV
   simp only[show ¬((9:Int)=5) from by decide,show ¬((9:Int)=6) from by decide,if_false]
   intro aa
   have yx:(Sm.mk 9 (cg 9 s.nm) (bH 9 s.on) (bJ 9 s.od) [y] [] [] s.a z).row=[.int .i64 9,.str [],.str [],.int .i64 0,aW [y],.U,.U,.int .i64 s.a,.int .i64 z]:=by simp[Sm.row,Sm.rows,cg,bH,bJ]
   show _=some (AV.agg (Sm.mk 9 (cg 9 s.nm) (bH 9 s.on) (bJ 9 s.od) [y] [] [] s.a z).row,_)
   rw[yx]
   generalize bD s.bd=bv at *
   generalize bD s.el=lv at *
   generalize (c.bN W).bC=o at *
   refine ax (sf:=kX) rfl rfl rfl ?_
   simp[-au,-ag,kX,lT,en,e1,e2,b1,b2,l1,l2,hze,fH,bP,hX,Gc,l5,cV,af,AV.view,AV.an,AV.ah,aQ,bw]
end K9
namespace K9
open Ax Go cz V7 kL lV
theorem VC{bO:Bool}{k:Int}{es:List E}(h:ee bO k es=true):k=1\/k=2\/k=3\/k=4\/k=5\/k=6\/k=7\/k=8\/k=9:=by
 by_cases h1:k=1
 ·exact .inl h1
 by_cases h4:k=4
 ·omega
 by_cases h7:k=7
 ·omega
 by_cases h9:k=9
 ·omega
 unfold ee at h
 rw[if_neg h1,if_neg h4,if_neg h7,if_neg h9]at h
 split at h
 ·omega
 ·cases h
theorem IM{H:Hd}{bO:Bool}{br:T3}{V:List Vd}{l:List Sm}{k:Nat}(h:k<l.length):kF H bO br V (l.drop k)=match wQ H bO br V l[k] with
  |.error x=>.error x
  |.ok (y,W)=>match kF H bO br W (l.drop (k+1)) with
   |.error x=>.error x
   |.ok (ys,X)=>.ok (y::ys,X):=by
 rw[List.drop_eq_getElem_cons h]
 conv=>lhs;unfold kF
 rfl
def NT(ys:List Sm)(r:Except Int (List Sm×List Vd)):Except Int (List Sm×List Vd):=match r with
 |.error x=>.error x
 |.ok (zs,X)=>.ok (ys++zs,X)
theorem NU{H:Hd}{bO:Bool}{br:T3}{V:List Vd}{l:List Sm}{ys:List Sm}{k:Nat}(h:k<l.length):NT ys (kF H bO br V (l.drop k))=match wQ H bO br V l[k] with
  |.error x=>.error x
  |.ok (y,W)=>NT (ys++[y]) (kF H bO br W (l.drop (k+1))):=by
 rw[IM h]
 split
 ·rfl
 ·split
  ·rename_i h1;rw[h1];rfl
  ·rename_i h1;rw[h1];simp[NT]
theorem CX{l:List Sm}{k:Nat}(h:k<l.length):(Sm.rows l)[k]?=some l[k].row:=by simp[gH,h]
theorem ya{l:List Sm}{k:Nat}(h:k<l.length)(h2:k<(Sm.rows l).length):(Sm.rows l)[k]=l[k].row:=by simp[gH]
theorem IN:∀(l:List Sm)(k:Nat)(h:k<l.length),Sm.eA (l.drop k)=Sm.sz l[k]+Sm.eA (l.drop (k+1)):=by
 intro l k h
 rw[List.drop_eq_getElem_cons h];rfl
theorem fB(c:CK)(l:List Sm)(hf:c.fe=0)(hw:yA c)(eH:c.V.length+Sm.eA l<1000000000)
  (hl:∀s∈l,∀d:CK,d.H=c.H->d.sg=c.sg->d.fe=0->yA d->d.V.length+Sm.sz s<1000000000->yz d s):Kz c l:=by
 unfold Kz
 have hz:dc 9 (bD l)=true:=F6
 have dV:aJ (bD l)=true:=bL
 have iL:(bD l).view=bD l:=bR
 have fH:aZ (bD l)=Sm.rows l:=aT
 have hlen:=Sm.fF l
 have oM:∀(ys:List Sm) (y:Sm),ys.length<1000000000->vN 9 136 (cD 9 (Sm.rows ys)) [y.row]=some (cD 9 (Sm.rows (ys++[y]))):=λys y h=>by
  rw[fW (by simp[bU,Sm.aG]) (by simp[dQ];omega)]
  simp[gH]
 have DH:∀(ys:List (List AV)) (y:List AV),y.length=9->ys.length<1000000000->vN 9 136 (cD 9 ys) [y]=some (cD 9 (ys++[y])):=λys y h1 h=>by
  rw[fW (by simp[bU,h1]) (by simp[dQ];omega)]
 cases hR:kF c.H c.sg.bO c.sg.br c.V l with
 |ok x=>
  obtain⟨zs,X⟩:=x
  intro aa
  refine ax (sf:=W0) rfl rfl rfl ?_
  generalize bD l=lv at *
  simp[-au,-ag,W0,dV,iL,fH]
  refine bM Cn.eq_1 (λx:Nat×List Sm×List Vd×List AV=>⟨[(0,.val (.ptr 0 0 0 0)),(5,.val (cD 9 (Sm.rows x.2.1))),(8,.val lv),(9,.val (.int .i64 l.length)),(10,.val (.int .i64 x.1))],[x.2.2.2],[(c.bN x.2.2.1).bC]⟩)
   (λx=>x.1<=l.length/\x.2.1.length=x.1/\NT x.2.1 (kF c.H c.sg.bO c.sg.br x.2.2.1 (l.drop x.1))=.ok (zs,X)/\yA (c.bN x.2.2.1)/\x.2.2.1.length+Sm.eA (l.drop x.1)<1000000000) (λx=>l.length-x.1) (0,[],c.V,[]) rfl ⟨by simp,rfl,by simp[NT,hR],hw,by simpa using eH⟩ ?_
  rintro⟨k,ys,V,b⟩ ⟨hk,hy,hp,hW,hVs⟩ ih
  simp only at hk hy hp hW hVs ih
  by_cases bn:k<l.length
  ·have tE:IntKind.i64.wrap ((k:Int)+1)=((k+1:Nat):Int):=by rw[aY]<;>omega
   rw[IN l k bn]at hVs
   have hv:=hl l[k] (List.getElem_mem bn) (c.bN V) rfl rfl hf hW (by show V.length+_<_;omega)
   unfold yz at hv
   have KF:wQ (c.bN V).H (c.bN V).sg.bO (c.bN V).sg.br (c.bN V).V l[k]=wQ c.H c.sg.bO c.sg.br V l[k]:=rfl
   rw[KF]at hv
   rw[NU bn]at hp
   have gE:=CX bn
   have tF:=λh2=>ya bn h2
   have l5:=λaa=>cG aa (c.bN V) []
   rw[decide_eq_true (show (c.bN V).fe=0 from hf)]at l5
   cases hx:wQ c.H c.sg.bO c.sg.br V l[k] with
   |error a=>rw[hx]at hp;cases hp
   |ok x=>
    obtain⟨y,W⟩:=x
    rw[hx]at hp hv
    simp only at hp hv
    obtain⟨w1,w2⟩:=Ku l[k] V y W hW.V hx
    have ap:=oM ys y (by omega)
    have eU:=λb=>ih (k+1,ys++[y],W,b) ⟨by simp only;omega,by simp[hy],hp,Ga (W:=W) hw w1 (by omega),by show W.length+Sm.eA (l.drop (k+1))<1000000000;omega⟩ (by simp only;omega)
    simp only at eU
    have x9:(c.bN V).bN W=c.bN W:=rfl
    rw[x9]at hv
    generalize (c.bN V).bC=o1 at *
    generalize (c.bN W).bC=o2 at *
    generalize cD 9 (Sm.rows (ys++[y]))=R at *
    rw[Sm.aG l[k]]at hv gE
    simp only[Sm.aG l[k]]at tF
    rw[Sm.aG y]at hv ap
    generalize l[k]=x at *
    simp[-au,-ag,bP,bn,tE,hz,fH,tF,l5,hv,ap,af,AV.view]
    exact eU _
  ·have jq:k=l.length:=by omega
   have hh:ys=zs/\V=X:=by
    rw[jq,List.drop_length]at hp
    simpa [kF,NT] using hp
   obtain⟨h1,h2⟩:=hh
   subst h1 h2
   simp[-au,-ag,bn]
 |error a=>
  intro aa
  obtain⟨v,bS,h1,W,h2,h3⟩:∃v bS,(bg S).call 0 aa 43 [.ptr 0 0 0 0,bD l] [c.bC]=some (v,bS)/\∃W,aJ v=true/\bS=[((c.bN W).fail a).bC]:=by
   refine A2 (sf:=W0) rfl rfl rfl ?_
   generalize bD l=lv at *
   simp[-au,-ag,W0,dV,iL,fH]
   refine bM Cn.eq_1 (λx:Nat×List (List AV)×List Vd×CK×List AV=>⟨[(0,.val (.ptr 0 0 0 0)),(5,.val (cD 9 x.2.1)),(8,.val lv),(9,.val (.int .i64 l.length)),(10,.val (.int .i64 x.1))],[x.2.2.2.2],[x.2.2.2.1.bC]⟩)
    (λx=>x.1<=l.length/\x.2.1.length=x.1/\(x.2.2.2.1=c.bN x.2.2.1/\kF c.H c.sg.bO c.sg.br x.2.2.1 (l.drop x.1)=.error a/\yA (c.bN x.2.2.1)/\x.2.2.1.length+Sm.eA (l.drop x.1)<1000000000\/x.2.2.2.1=(c.bN x.2.2.1).fail a))
    (λx=>l.length-x.1) (0,[],c.V,c,[]) rfl ⟨by simp,rfl,.inl ⟨rfl,by simpa using hR,hw,by simpa using eH⟩⟩ ?_
   rintro⟨k,ys,V,d,b⟩ ⟨hk,hy,hp⟩ ih
   simp only at hk hy hp ih
   by_cases bn:k<l.length
   ·have tE:IntKind.i64.wrap ((k:Int)+1)=((k+1:Nat):Int):=by rw[aY]<;>omega
    have gE:=CX bn
    have tF:=λh2=>ya bn h2
    rcases hp with⟨hd,hp,hW,hVs⟩|hd
    ·subst hd
     rw[IN l k bn]at hVs
     have hv:=hl l[k] (List.getElem_mem bn) (c.bN V) rfl rfl hf hW (by show V.length+_<_;omega)
     unfold yz at hv
     have KF:wQ (c.bN V).H (c.bN V).sg.bO (c.bN V).sg.br (c.bN V).V l[k]=wQ c.H c.sg.bO c.sg.br V l[k]:=rfl
     rw[KF]at hv
     rw[IM bn]at hp
     have l5:=λaa=>cG aa (c.bN V) []
     rw[decide_eq_true (show (c.bN V).fe=0 from hf)]at l5
     cases hx:wQ c.H c.sg.bO c.sg.br V l[k] with
     |error a'=>
      rw[hx]at hp hv
      simp only at hp hv
      cases hp
      obtain⟨W,row,⟨rk,rnm,ron,rod,br,rbd,rel,ra,ZL,rfl,q1,q2,q3⟩,hv⟩:=hv 1
      have x9:(c.bN V).bN W=c.bN W:=rfl
      rw[x9]at hv
      have ap:=DH ys [.int .i64 rk,.str rnm,.str ron,.int .i64 rod,br.view,rbd.view,rel.view,.int .i64 ra,.int .i64 ZL] rfl (by omega)
      have eU:=λb=>ih (k+1,ys++[[.int .i64 rk,.str rnm,.str ron,.int .i64 rod,br.view,rbd.view,rel.view,.int .i64 ra,.int .i64 ZL]],W,(c.bN W).fail a,b) ⟨by simp only;omega,by simp[hy],.inr rfl⟩ (by simp only;omega)
      simp only at eU
      generalize (c.bN V).bC=o1 at *
      generalize ((c.bN W).fail a).bC=o2 at *
      generalize cD 9 (ys++[[.int .i64 rk,.str rnm,.str ron,.int .i64 rod,br.view,rbd.view,rel.view,.int .i64 ra,.int .i64 ZL]])=R at *
      rw[Sm.aG l[k]]at hv gE
      simp only[Sm.aG l[k]]at tF
      generalize l[k]=x at *
      simp[-au,-ag,bP,bn,tE,hz,fH,tF,l5,hv,ap,q1,q2,q3,af,AV.view]
      exact eU _
     |ok x=>
      obtain⟨y,W⟩:=x
      rw[hx]at hp hv
      simp only at hp hv
      obtain⟨w1,w2⟩:=Ku l[k] V y W hW.V hx
      have Uk:kF c.H c.sg.bO c.sg.br W (l.drop (k+1))=.error a:=by
       split at hp
       ·rename_i h;cases hp;exact h
       ·cases hp
      have ap:=DH ys y.row (by rw[Sm.aG];rfl) (by omega)
      have eU:=λb=>ih (k+1,ys++[y.row],W,c.bN W,b) ⟨by simp only;omega,by simp[hy],.inl ⟨rfl,Uk,Ga (W:=W) hw w1 (by omega),by show W.length+Sm.eA (l.drop (k+1))<1000000000;omega⟩⟩ (by simp only;omega)
      simp only at eU
      have x9:(c.bN V).bN W=c.bN W:=rfl
      rw[x9]at hv
      generalize (c.bN V).bC=o1 at *
      generalize (c.bN W).bC=o2 at *
      generalize cD 9 (ys++[y.row])=R at *
      rw[Sm.aG l[k]]at hv gE
      simp only[Sm.aG l[k]]at tF
      rw[Sm.aG y]at hv ap
      generalize l[k]=x at *
      simp[-au,-ag,bP,bn,tE,hz,fH,tF,l5,hv,ap,af,AV.view]
      exact eU _
    ·subst hd
     have jS:=λaa=>cG aa ((c.bN V).fail a) []
     rw[decide_eq_false jk]at jS
     simp only[Sm.aG l[k]]at tF
     rw[Sm.aG l[k]]at gE
     have hex:∃W,((c.bN V).fail a).bC=((c.bN W).fail a).bC:=⟨V,rfl⟩
     generalize ((c.bN V).fail a).bC=o2 at *
     generalize l[k]=x at *
     simp[-au,-ag,bP,bn,hz,fH,tF,jS,hex,af,AV.view]
   ·have jq:k=l.length:=by omega
    rcases hp with⟨hd,hp,_⟩|hd
    ·rw[jq,List.drop_length]at hp
     simp[kF]at hp
    ·subst hd
     have hex:∃W,((c.bN V).fail a).bC=((c.bN W).fail a).bC:=⟨V,rfl⟩
     generalize ((c.bN V).fail a).bC=o2 at *
     simp[-au,-ag,bn,hex]
  rw[h3]at h1
  exact⟨W,v,h2,h1⟩
theorem sP(s:Sm):∀c:CK,c.fe=0->yA c->c.V.length+Sm.sz s<1000000000->yz c s:=by
 induction s using Sm.vp with
 |_ s sZ tu=>
  intro c hf hw eH
  have hz:=Sm.nV s
  have rN:=E.fF s.es
  cases h:ee c.sg.bO s.k s.es with
  |false=>exact ZB c s (by omega) h
  |true=>
   have CW:∀d:CK,d.H=c.H->d.sg=c.sg->d.fe=0->yA d->d.V.length+Sm.eA s.bd<1000000000->Kz d s.bd:=λd _ _ h1 h2 h3=>
    fB d s.bd h1 h2 h3 λx hx e _ _ g1 g2 g3=>sZ x hx e g1 g2 g3
   have NS:∀d:CK,d.H=c.H->d.sg=c.sg->d.fe=0->yA d->d.V.length+Sm.eA s.el<1000000000->Kz d s.el:=λd _ _ h1 h2 h3=>
    fB d s.el h1 h2 h3 λx hx e _ _ g1 g2 g3=>tu x hx e g1 g2 g3
   rcases VC h with k|k|k|k|k|k|k|k|k
   ·exact ZC c s hf hw eH k h
   ·exact ZD c s hf hw eH k h
   ·exact ZE c s hf hw eH k h
   ·exact ZF c s hf hw eH k h
   ·exact ZG c s hf hw eH k h CW NS
   ·exact ZH c s hf hw eH k h CW
   ·exact ZI c s hf hw eH k h
   ·exact ZJ c s hf hw eH k h
   ·exact ZK c s hf hw eH k h
theorem F2(c:CK)(l:List Sm)(hf:c.fe=0)(hw:yA c)(eH:c.V.length+Sm.eA l<1000000000):Kz c l:=
 fB c l hf hw eH λs _ d _ _ h1 h2 h3=>sP s d h1 h2 h3
end K9
namespace K9
open Ax Go cz V7 kL lV
theorem CY(wl aa:Nat)(l:List Vd)(st:aj)(hn:l.length<1000000000):(bg S).call wl aa 42 [cw l] st=some (cD 4 (l.map Vd.row),st):=by
 refine b8 (sf:=s42) rfl rfl (by simp[AV.ah]) rfl (by simp) ?_
 cases l with
 |nil=>simp[s42,cw,nE,GF]
 |cons v l=>
  have hv:cw (v::l)=.dj 4 ((v::l).map Vd.row):=rfl
  have oM:=fW (sz:=4) (bytes:=40) (r:=[]) (new:=(v::l).map Vd.row) (by simp[bU,Vd.row]) (by simp[dQ]at hn ⊢;omega)
  rw[hv]
  simp only[List.nil_append]at oM
  have hm:cD 4 ((v::l).map Vd.row)=.je 4 ((v::l).map Vd.row):=rfl
  rw[hm]at oM ⊢
  have yI:vN 4 40 .kV ((v::l).map Vd.row)=some (.je 4 ((v::l).map Vd.row)):=by
   simp[vN,bU,Vd.row,dQ]at hn ⊢;omega
  generalize (v::l).map Vd.row=R at *
  simp[s42,yI,GF]
def CK.lY(c:CK)(g:Sg):CK:={ c with sg:=g,V:=g.ps }
theorem ZM{c:CK}{a:Int}:(c.fail a).V=c.V:=by unfold CK.fail;split<;>rfl
theorem VD(c:CK)(f:Fc)(g:Sg)(hf:c.fe=0)(hw:yA (c.lY g))(eH:g.ps.length+Sm.eA f.body<1000000000):match kF c.H g.bO g.br g.ps f.body with
  |.ok (ys,W)=>∀aa,(bg S).call 0 aa 24 [.ptr 0 0 0 0,.agg f.row,.agg g.row] [c.bC]=some (.agg [cw W,cD 9 (Sm.rows ys),.int .i64 f.a],[((c.lY g).bN W).bC])
  |.error a=>∀aa,∃W v,aJ v=true/\(bg S).call 0 aa 24 [.ptr 0 0 0 0,.agg f.row,.agg g.row] [c.bC]=some (.agg [cw W,v,.int .i64 f.a],[(((c.lY g).bN W).fail a).bC]):=by
 have hB:=F2 (c.lY g) f.body hf hw eH
 unfold Kz at hB
 have KF:kF (c.lY g).H (c.lY g).sg.bO (c.lY g).sg.br (c.lY g).V f.body=kF c.H g.bO g.br g.ps f.body:=rfl
 rw[KF]at hB
 have hV:=hw.s.V
 have ec:=λwl aa st=>CY wl aa g.ps st (by exact hV)
 have h1:∀aa bx,aL 0 aa (.store 6) [.val (.ptr 0 0 0 5),.val (.agg g.row)] [c.bC] bx=some (.none,[({ c with sg:=g }:CK).bC],bx):=λaa bx=>by
  simp[CK.bC,Sg.row,bh,AV.ah,AV.an,af]
 have h2:∀aa bx,aL 0 aa (.store 1) [.val (.ptr 0 0 0 11),.val (cD 4 (g.ps.map Vd.row))] [({ c with sg:=g }:CK).bC] bx=some (.none,[(c.lY g).bC],bx):=λaa bx=>by
  simp[CK.bC,CK.lY,bh,AV.ah,af]
 generalize ({ c with sg:=g }:CK).bC=o1 at *
 have g1:aJ (cD 4 (g.ps.map Vd.row))=true:=dz
 generalize cD 4 (g.ps.map Vd.row)=mg at *
 have g3:=bE g1
 have g4:=cC g1
 have p1:aJ (cw g.ps)=true:=jz
 have p2:(cw g.ps).view=cw g.ps:=jT
 have q1:aJ (bD f.body)=true:=bL
 have q2:(bD f.body).view=bD f.body:=bR
 simp only[Sg.row]at h1 ⊢
 simp only[Fc.row]
 cases hR:kF c.H g.bO g.br g.ps f.body with
 |ok x=>
  obtain⟨ys,W⟩:=x
  rw[hR]at hB
  simp only at hB ⊢
  intro aa
  have ev:=λwl aa bx=>IF (wl:=wl) (aa:=aa) (c:=(c.lY g).bN W) (r:=[]) (bx:=bx)
  have hVW:((c.lY g).bN W).V=W:=rfl
  rw[hVW]at ev
  generalize ((c.lY g).bN W).bC=o3 at *
  generalize (c.lY g).bC=o2 at *
  have y1:aJ (cD 9 (Sm.rows ys))=true:=dz
  have y2:(cD 9 (Sm.rows ys)).view=bD ys:=rfl
  have y3:=bE y1
  have y4:=cC y1
  generalize cD 9 (Sm.rows ys)=my at *
  have w1:aJ (cw W)=true:=jz
  have w2:(cw W).view=cw W:=jT
  generalize cw W=fw at *
  generalize cw g.ps=fg at *
  generalize bD f.body=fb at *
  refine ax (sf:=s24) rfl rfl rfl ?_
  simp[-au,-ag,s24,ec,h1,h2,hB,ev,p1,p2,q1,q2,w1,y1,af,AV.view,AV.an,AV.ah,aC,aA]
 |error a=>
  rw[hR]at hB
  simp only at hB ⊢
  intro aa
  obtain⟨W,v,v1,hB⟩:=hB 1
  refine⟨W,v,v1,?_⟩
  have ev:=λwl aa bx=>IF (wl:=wl) (aa:=aa) (c:=((c.lY g).bN W).fail a) (r:=[]) (bx:=bx)
  have hVW:(((c.lY g).bN W).fail a).V=W:=ZM
  rw[hVW]at ev
  generalize (((c.lY g).bN W).fail a).bC=o3 at *
  generalize (c.lY g).bC=o2 at *
  have v3:=bE v1
  have v4:=cC v1
  have v5:aJ v.view=true:=by rw[rD];exact v1
  have w1:aJ (cw W)=true:=jz
  have w2:(cw W).view=cw W:=jT
  generalize cw W=fw at *
  generalize cw g.ps=fg at *
  generalize bD f.body=fb at *
  refine ax (sf:=s24) rfl rfl rfl ?_
  simp[-au,-ag,s24,ec,h1,h2,hB,ev,p1,p2,q1,q2,w1,v1,af,AV.view,AV.an,AV.ah,aC,aA]
open N7 U7 in
theorem A4(p:Pg):kA (dA (kO p).bG)=ck p:=by
 rw[qG]
 simp[kA,ck,IE]
def nK(H:Hd)(m:Int):List AV:=[aB 2 (H.cF.map iF),cw H.globals,aB 6 (H.sigs.map Sg.row),.int .i64 m]
theorem uz(rs:List (List UInt8))(l:List PD):gZ rs l=(mD rs l).map Vd.row:=by
 simp only[gZ,mD,List.map_map]
 exact List.map_congr_left λq _=>rfl
open N7 U7 in
def iG(p:Pg):Int:=x4 (jE (kO p).funcs)
open N7 U7 in
theorem RM(p:Pg):CM (kO p)=.agg (nK (aS p) (iG p)):=by
 unfold CM nK iG
 have h1:nJ (kA (dA (kO p).bG)) (dA (kO p).bG)=(aS p).cF.map iF:=by
  rw[A4,qG]
  simp only[nJ,aS,List.map_map]
  exact List.map_congr_left λr _=>by simp only[Function.comp,FY,IE,oR,iF,uz];rfl
 have h2:gZ (kA (dA (kO p).bG)) (oq (kO p).globals)=(aS p).globals.map Vd.row:=by
  rw[A4,F5,uz];rfl
 have h3:iK (kA (dA (kO p).bG)) (jE (kO p).funcs)=(aS p).sigs.map Sg.row:=by
  rw[A4,qH]
  simp only[iK,aS,List.map_map]
  refine List.map_congr_left λf _=>?_
  simp only[Function.comp,iQ,DI,oR,Sg.row,wP,U7.om,uz]
  obtain⟨n,ps,bO,on,od,body,a⟩:=f
  cases bO<;>rfl
 rw[h1,h2,h3]
 rfl
theorem Mg(p:Pg):(aS p).ok:=by
 refine⟨by simp[aS,ck],?_,?_,?_⟩
 ·intro s hs f hf
  simp only[aS]at hs
  obtain⟨r,_,rfl⟩:=List.mem_map.1 hs
  simp only[mD]at hf
  obtain⟨q,_,rfl⟩:=List.mem_map.1 hf
  exact mF _ _ _
 ·intro f hf
  simp only[aS,mD]at hf
  obtain⟨q,_,rfl⟩:=List.mem_map.1 hf
  exact mF _ _ _
 ·intro s hs
  simp only[aS]at hs
  obtain⟨r,_,rfl⟩:=List.mem_map.1 hs
  refine⟨?_,λf hf=>?_⟩
  ·simp only[wP]
   split
   ·exact mF _ _ _
   ·exact Ri
  ·simp only[wP,mD]at hf
   obtain⟨q,_,rfl⟩:=List.mem_map.1 hf
   exact mF _ _ _
abbrev Z5:AV:=.agg [.U,.U,.U,.int .i64 0,.U]
def CZ(H:Hd)(m:Int)(r:Except Int (List Bd)):AV:=match r with
 |.error a=>.fK [Z5,.agg [.int .i64 3,.int .i64 a]]
 |.ok l=>.fK [.agg (nK H m++[aB 3 (l.map Bd.row)]),.agg [.int .i64 0,.int .i64 0]]
open N7 U7 in
def uA(p:Pg):AV:=match mK (kO p) with
 |some a=>.fK [Z5,.agg [.int .i64 3,.int .i64 a]]
 |none=>CZ (aS p) (iG p) (q8 (aS p) (aS p).sigs p.funcs)
def NW(bs:List Bd)(r:Except Int (List Bd)):Except Int (List Bd):=match r with
 |.error x=>.error x
 |.ok zs=>.ok (bs++zs)
theorem RN{H:Hd}{ss:List Sg}{fs:List Fc}{bs:List Bd}{k:Nat}(h:k<ss.length)(h2:k<fs.length):NW bs (q8 H (ss.drop k) (fs.drop k))=match kF H ss[k].bO ss[k].br ss[k].ps fs[k].body with
  |.error x=>.error x
  |.ok (c,W)=>NW (bs++[⟨W,c,fs[k].a⟩]) (q8 H (ss.drop (k+1)) (fs.drop (k+1))):=by
 rw[List.drop_eq_getElem_cons h,List.drop_eq_getElem_cons h2]
 conv=>lhs;arg 2;unfold q8
 cases kF H ss[k].bO ss[k].br ss[k].ps fs[k].body with
 |error x=>rfl
 |ok x=>
  obtain⟨c,W⟩:=x
  simp only
  cases q8 H (List.drop (k+1) ss) (List.drop (k+1) fs) with
  |error x=>rfl
  |ok x=>simp[NW]
def CK.RO(c:CK)(w:AV):fL:=.rows 0 14 [[aB 2 (c.H.cF.map iF),cw c.H.globals,aB 6 (c.H.sigs.map Sg.row),.int .i64 c.main,w,.str c.sg.nm,cw c.sg.ps,.bool c.sg.bO,.int .i64 c.sg.br.b,.int .i64 c.sg.br.r,.int .i64 c.sg.br.d,cD 4 (c.V.map Vd.row),.int .i64 c.fe,.int .i64 c.fa]]
def CK.ZN(c:CK)(R:List (List UInt8)):CK:={ c with H:={ c.H with rs:=R } }
theorem VE{aa:Nat}{c:CK}{bx:aU}:aL 0 aa (.load false 1 true) [.val (.ptr 0 0 0 4)] [c.bC] bx=some (.val (cD 1 (gT c.H.rs)),[c.RO (cD 1 (gT c.H.rs)).iM],bx):=by
 simp only[CK.bC,CK.RO]
 generalize gT c.H.rs=rows
 cases rows with
 |nil=>simp[aL,cD,cut,fY,dR,bh,AV.iM,AV.an,AV.ah,af,b9]
 |cons a l=>simp[aL,cD,cut,fY,dR,bh,AV.iM,AV.an,AV.ah,af,b9]
theorem ZO{aa:Nat}{c:CK}{w:AV}{R:List (List UInt8)}{bx:aU}:aL 0 aa (.store 1) [.val (.ptr 0 0 0 4),.val (cD 1 (gT R))] [c.RO w] bx=some (.none,[(c.ZN R).bC],bx):=by
 simp[CK.bC,CK.RO,CK.ZN,bh,AV.ah,af]
theorem ZP{wl aa:Nat}{c:CK}{r:aj}{bx:aU}:aL wl aa (.load true 2 false) [.val (.ptr 0 0 0 12)] (c.bC::r) bx=some (.val (.agg [.int .i64 c.fe,.int .i64 c.fa]),c.bC::r,bx):=by
 simp[CK.bC,cut,AV.view]
def sg0:Sg:=⟨[],[],false,T0⟩
def Mh(H:Hd)(m:Int)(R:List (List UInt8)):CK:=⟨{ H with rs:=R },m,sg0,[],0,0⟩
theorem VF{l:List Rc}{k:Nat}(h:k<l.length):(l.map Rc.row)[k]?=some [.str l[k].name,aB 4 (l[k].cq.map PD.cells),.int .i64 l[k].a]:=by simp[h,Rc.row]
theorem ZQ{l:List Fc}{k:Nat}(h:k<l.length):(l.map Fc.row)[k]?=some [.str l[k].name,aB 4 (l[k].params.map PD.cells),.bool l[k].bO,.str l[k].on,.int .i64 l[k].od,bD l[k].body,.int .i64 l[k].a]:=by simp[h,Fc.row]
theorem NX(H:Hd)(m:Int)(r:Except Int (List Bd)):(CZ H m r).an=true:=by
 cases r<;>simp[CZ,nK,AV.an,AV.ah]
theorem IP(p:Pg):(uA p).an=true:=by
 unfold uA
 split
 ·simp[AV.an,AV.ah]
 ·exact NX _ _ _
open N7 U7 in
theorem IQ(wl aa:Nat)(p:Pg)(st:aj)(hg:(kO p).ok)(tD:GD.sm (kO p))(eH:∀f∈p.funcs,f.params.length+Sm.eA f.body<1000000000) :
  (bg S).call wl aa 10 [.agg p.row] st=some (uA p,st):=by
 have em:∀wl aa st,(bg S).call wl aa 23 [.agg p.row] st=some (Ru (kO p),st):=λwl aa st=>FZ wl aa (kO p) st hg tD
 refine b8 (sf:=s10) rfl rfl (by simp[Pg.row,AV.ah,AV.an]) rfl (IP p) ?_
 unfold uA
 unfold Ru at em
 cases hF:mK (kO p) with
 |some a=>
  rw[hF]at em
  simp only[Iz,fE,fX,Pg.row]at em ⊢
  simp[-au,-ag,s10,em,af,AV.view,aC,aA]
 |none=>
  rw[hF,RM]at em
  simp only[fE,fX,Pg.row,nK]at em ⊢
  have O5:(Mh (aS p) (iG p) []).bC=.rows 0 14 [[aB 2 ((aS p).cF.map iF),cw (aS p).globals,aB 6 ((aS p).sigs.map Sg.row),.int .i64 (iG p),.U,.str [],.U,.bool false,.int .i64 0,.int .i64 0,.int .i64 0,.U,.int .i64 0,.int .i64 0]]:=by
   simp[CK.bC,Mh,sg0,gT,nE,cw]
  have th:∀wl aa bx,aL wl aa (.box 14) [.val (.agg [aB 2 ((aS p).cF.map iF),cw (aS p).globals,aB 6 ((aS p).sigs.map Sg.row),.int .i64 (iG p),.U,.str [],.U,.bool false,.int .i64 0,.int .i64 0,.int .i64 0,.U,.int .i64 0,.int .i64 0])] [] bx =
    some (.val (.ptr 0 0 0 0),[(Mh (aS p) (iG p) []).bC],bx):=λwl aa bx=>by rw[O5];simp
  have t1:aJ (aB 2 ((aS p).cF.map iF))=true:=bp
  have t2:(aB 2 ((aS p).cF.map iF)).view=aB 2 ((aS p).cF.map iF):=bq
  have t3:aJ (aB 6 ((aS p).sigs.map Sg.row))=true:=bp
  have t4:(aB 6 ((aS p).sigs.map Sg.row)).view=aB 6 ((aS p).sigs.map Sg.row):=bq
  have t5:dc 6 (aB 6 ((aS p).sigs.map Sg.row))=true:=jt (by simp[bU,Sg.row])
  have t6:aZ (aB 6 ((aS p).sigs.map Sg.row))=(aS p).sigs.map Sg.row:=aT
  have r1:aJ (aB 3 (p.bG.map Rc.row))=true:=bp
  have r2:(aB 3 (p.bG.map Rc.row)).view=aB 3 (p.bG.map Rc.row):=bq
  have r3:dc 3 (aB 3 (p.bG.map Rc.row))=true:=jt (by simp[bU,Rc.row])
  have r4:aZ (aB 3 (p.bG.map Rc.row))=p.bG.map Rc.row:=aT
  have f1:aJ (aB 7 (p.funcs.map Fc.row))=true:=bp
  have f2:(aB 7 (p.funcs.map Fc.row)).view=aB 7 (p.funcs.map Fc.row):=bq
  have f3:dc 7 (aB 7 (p.funcs.map Fc.row))=true:=jt (by simp[bU,Fc.row])
  have f4:aZ (aB 7 (p.funcs.map Fc.row))=p.funcs.map Fc.row:=aT
  have g1:aJ (aB 4 (p.globals.map PD.cells))=true:=bp
  have g2:(aB 4 (p.globals.map PD.cells)).view=aB 4 (p.globals.map PD.cells):=bq
  generalize hHS:aB 2 ((aS p).cF.map iF)=HS at *
  generalize hHG:aB 6 ((aS p).sigs.map Sg.row)=HG at *
  generalize aB 3 (p.bG.map Rc.row)=PR at *
  generalize aB 7 (p.funcs.map Fc.row)=PF at *
  generalize aB 4 (p.globals.map PD.cells)=PG at *
  simp[-au,-ag,-LO,s10,em,th,t1,t2,t3,t4,r1,r2,r4,f1,f2,g1,g2,af,AV.view]
  have Oq:(ck p).length=p.bG.length:=by simp[ck]
  have hrn:p.bG.length<1000000000:=by have:=tD.bG;rw[qG,List.length_map]at this;exact this
  have J8:p.funcs.length<1000000000:=by have:=tD.funcs;rw[qH,List.length_map]at this;exact this
  have hHr:(Mh (aS p) (iG p) (ck p)).H=aS p:=rfl
  generalize hGL:cw (aS p).globals=GL at *
  have gl1:aJ GL=true:=by rw[<-hGL];exact jz
  have gl2:GL.view=GL:=by rw[<-hGL];exact jT
  refine bM Qm.eq_1 (λx:Nat×List AV=>⟨[(1,.fp 0 0),(2,.fp 1 0),(3,.fp 2 0),(4,.fp 3 0),(6,.val (.ptr 0 0 0 0)),(26,.val PR),(27,.val (.int .i64 p.bG.length)),(28,.val (.int .i64 x.1))],
   [[PR,PG,PF],[.U,.U,.U,.int .i64 0,.U],[.int .i64 0,.int .i64 0],[HS,GL,HG,.int .i64 (iG p)],[.int .i64 0,.int .i64 0],x.2,[],[]],[(Mh (aS p) (iG p) ((ck p).take x.1)).bC]⟩)
   (λx=>x.1<=p.bG.length) (λx=>p.bG.length-x.1) (0,[]) (by simp) (by simp) ?_
  rintro⟨k,b⟩ hk ih
  simp only at hk ih
  by_cases bn:k<p.bG.length
  ·have tE:IntKind.i64.wrap ((k:Int)+1)=((k+1:Nat):Int):=by rw[aY]<;>omega
   have gR:=VF bn
   have gR':∀h:k<(p.bG.map Rc.row).length,(p.bG.map Rc.row)[k]=[.str p.bG[k].name,aB 4 (p.bG[k].cq.map PD.cells),.int .i64 p.bG[k].a]:=λh=>by simp[Rc.row]
   have oM:=fW (sz:=1) (bytes:=16) (r:=gT ((ck p).take k)) (new:=[[.str p.bG[k].name]]) (by simp[bU]) (by simp[dQ,gT];omega)
   have Zk:gT ((ck p).take k)++[[.str p.bG[k].name]]=gT ((ck p).take (k+1)):=by
    rw[List.take_succ_eq_append_getElem (by rw[Oq];exact bn)]
    simp[gT,ck]
   rw[Zk]at oM
   have et:=λaa bx=>VE (aa:=aa) (c:=Mh (aS p) (iG p) ((ck p).take k)) (bx:=bx)
   have ep:=λaa bx=>ZO (aa:=aa) (c:=Mh (aS p) (iG p) ((ck p).take k)) (w:=(cD 1 (gT ((ck p).take k))).iM) (R:=(ck p).take (k+1)) (bx:=bx)
   have OU:(Mh (aS p) (iG p) ((ck p).take k)).ZN ((ck p).take (k+1))=Mh (aS p) (iG p) ((ck p).take (k+1)):=rfl
   rw[OU]at ep
   have Td:(Mh (aS p) (iG p) ((ck p).take k)).H.rs=(ck p).take k:=rfl
   rw[Td]at et
   have eU:=λb=>ih (k+1,b) (by simp only;omega) (by simp only;omega)
   simp only at eU
   generalize (Mh (aS p) (iG p) ((ck p).take (k+1))).bC=o1 at *
   generalize (Mh (aS p) (iG p) ((ck p).take k)).RO (cD 1 (gT ((ck p).take k))).iM=o2 at *
   generalize (Mh (aS p) (iG p) ((ck p).take k)).bC=o3 at *
   generalize cD 1 (gT ((ck p).take (k+1)))=m1 at *
   generalize cD 1 (gT ((ck p).take k))=m2 at *
   generalize p.bG[k]=rc at *
   simp[-au,-ag,bP,bn,tE,r3,r4,gR',et,ep,oM,af,AV.view,aC,aA]
   exact eU _
  ·have jq:k=p.bG.length:=by omega
   subst jq
   have Av:(ck p).take p.bG.length=ck p:=by rw[<-Oq,List.take_length]
   rw[Av]
   simp[-au,-ag,t1,t2,t3,t4,f1,f2,f4,gl1,gl2,af,AV.view]
   have dV:(aS p).sigs.length=p.funcs.length:=by simp[aS]
   have ajy:∀(d:CK) (g:Sg),d.H=aS p->g∈(aS p).sigs->yA (d.lY g):=λd g hd Gb=>by
    have X2:=Mg p
    have S7:(aS p).globals.length<1000000000:=by have:=tD.globals;rw[F5]at this;simpa [aS,mD] using this
    have hF:∀s∈(aS p).cF,s.2.length<1000000000:=λs hs=>by
     obtain⟨r,hr,rfl⟩:=List.mem_map.1 hs
     have:=tD.cq (IE r) (by rw[qG];exact List.mem_map_of_mem hr)
     simpa [IE,oR,mD] using this
    have hP:∀s∈(aS p).sigs,s.ps.length<1000000000:=λs hs=>by
     obtain⟨r,hr,rfl⟩:=List.mem_map.1 hs
     have:=tD.params (DI r) (by rw[qH];exact List.mem_map_of_mem hr)
     simpa [DI,oR,wP,mD] using this
    refine⟨⟨hP g Gb,?_,?_,?_,?_,?_⟩,?_,?_⟩
    ·show d.H.globals.length<_;rw[hd];exact S7
    ·show d.H.sigs.length<_;rw[hd,dV];exact J8
    ·show d.H.rs.length<_;rw[hd];show (ck p).length<_;rw[Oq];exact hrn
    ·show ∀s∈d.H.cF,_;rw[hd];exact hF
    ·show ∀s∈d.H.sigs,_;rw[hd];exact hP
    ·show d.H.ok;rw[hd];exact X2
    ·show ∀f∈g.ps,WT d.H.rs.length f.ty;rw[hd];exact(X2.sigs g Gb).2
   refine bM Qn.eq_1 (λx:Nat×List Bd×CK×List AV=>⟨[(2,.fp 1 0),(3,.fp 2 0),(4,.fp 3 0),(6,.val (.ptr 0 0 0 0)),(9,.fp 6 0),(47,.val PF),(48,.val (.int .i64 p.funcs.length)),(49,.val (.int .i64 x.1))],
    [[PR,PG,PF],[.U,.U,.U,.int .i64 0,.U],[.int .i64 0,.int .i64 0],[HS,GL,HG,.int .i64 (iG p)],[.int .i64 0,.int .i64 0],b,[HS,GL,HG,.int .i64 (iG p),cD 3 (x.2.1.map Bd.row)],x.2.2.2],[x.2.2.1.bC]⟩)
    (λx=>x.1<=p.funcs.length/\x.2.1.length=x.1/\x.2.2.1.H=aS p/\x.2.2.1.fe=0/\NW x.2.1 (q8 (aS p) ((aS p).sigs.drop x.1) (p.funcs.drop x.1))=q8 (aS p) (aS p).sigs p.funcs)
    (λx=>p.funcs.length-x.1) (0,[],Mh (aS p) (iG p) (ck p),[]) (by simp[nE]) ⟨by simp,rfl,rfl,rfl,by simp[NW];split<;>rename_i h<;>exact h.symm⟩ ?_
   rintro⟨k,bs,d,b7⟩ ⟨hk,hbs,hd,hdf,hp⟩ ih
   simp only at hk hbs hd hdf hp ih
   by_cases vO:k<p.funcs.length
   ·have oy:k<(aS p).sigs.length:=by omega
    have tE:IntKind.i64.wrap ((k:Int)+1)=((k+1:Nat):Int):=by rw[aY]<;>omega
    have gF:=ZQ vO
    have gF':∀h:k<(p.funcs.map Fc.row).length,(p.funcs.map Fc.row)[k]=[.str p.funcs[k].name,aB 4 (p.funcs[k].params.map PD.cells),.bool p.funcs[k].bO,.str p.funcs[k].on,.int .i64 p.funcs[k].od,bD p.funcs[k].body,.int .i64 p.funcs[k].a]:=λh=>by simp[Fc.row]
    have gS:((aS p).sigs.map Sg.row)[k]?=some [.str (aS p).sigs[k].nm,cw (aS p).sigs[k].ps,.bool (aS p).sigs[k].bO,.int .i64 (aS p).sigs[k].br.b,.int .i64 (aS p).sigs[k].br.r,.int .i64 (aS p).sigs[k].br.d]:=by simp[oy,Sg.row]
    have KC:∀h:k<((aS p).sigs.map Sg.row).length,((aS p).sigs.map Sg.row)[k]=[.str (aS p).sigs[k].nm,cw (aS p).sigs[k].ps,.bool (aS p).sigs[k].bO,.int .i64 (aS p).sigs[k].br.b,.int .i64 (aS p).sigs[k].br.r,.int .i64 (aS p).sigs[k].br.d]:=λh=>by simp[Sg.row]
    rw[RN oy vO]at hp
    have Uf:(aS p).sigs[k].ps.length=p.funcs[k].params.length:=by simp[aS,wP,mD]
    have hB:=VD d p.funcs[k] (aS p).sigs[k] hdf (ajy d _ hd (List.getElem_mem oy)) (by rw[Uf];exact eH _ (List.getElem_mem vO))
    rw[hd]at hB
    have oM:∀cs:List AV,cs.length=3->vN 3 56 (cD 3 (bs.map Bd.row)) [cs]=some (cD 3 (bs.map Bd.row++[cs])):=λcs hc=>fW (by simp[bU,hc]) (by simp[dQ];omega)
    have ps1:aJ (aB 4 (p.funcs[k].params.map PD.cells))=true:=bp
    have ps2:(aB 4 (p.funcs[k].params.map PD.cells)).view=aB 4 (p.funcs[k].params.map PD.cells):=bq
    have bd1:aJ (bD p.funcs[k].body)=true:=bL
    have bd2:(bD p.funcs[k].body).view=bD p.funcs[k].body:=bR
    have sp1:aJ (cw (aS p).sigs[k].ps)=true:=jz
    have sp2:(cw (aS p).sigs[k].ps).view=cw (aS p).sigs[k].ps:=jT
    simp only[Fc.row,Sg.row]at hB
    generalize hrS:(aS p).sigs.map Sg.row=RS at *
    generalize hrF:p.funcs.map Fc.row=RF at *
    have RP:k<RS.length:=by rw[<-hrS,List.length_map];exact oy
    have ZR:k<RF.length:=by rw[<-hrF,List.length_map];exact vO
    have VG:=KC RP
    have aev:=gF' ZR
    clear KC gF'
    cases hR:kF (aS p) (aS p).sigs[k].bO (aS p).sigs[k].br (aS p).sigs[k].ps p.funcs[k].body with
    |error a=>
     rw[hR]at hp hB
     simp only at hp hB
     obtain⟨W,v,v1,hB⟩:=hB 0
     have GM:(((d.lY (aS p).sigs[k]).bN W).fail a).fe=3/\(((d.lY (aS p).sigs[k]).bN W).fail a).fa=a:=by
      have:((d.lY (aS p).sigs[k]).bN W).fe=0:=hdf
      unfold CK.fail
      rw[if_pos this]
      exact⟨rfl,rfl⟩
     have l5:=λaa=>cG aa (((d.lY (aS p).sigs[k]).bN W).fail a) []
     rw[decide_eq_false jk]at l5
     have hcf:∀wl aa bx,aL wl aa (.load true 2 false) [.val (.ptr 0 0 0 12)] [(((d.lY (aS p).sigs[k]).bN W).fail a).bC] bx=some (.val (.agg [.int .i64 3,.int .i64 a]),[(((d.lY (aS p).sigs[k]).bN W).fail a).bC],bx):=λwl aa bx=>by
      rw[ZP,GM.1,GM.2]
     rw[<-hp]
     simp only[CZ]
     generalize (((d.lY (aS p).sigs[k]).bN W).fail a).bC=o1 at *
     have w1:aJ (cw W)=true:=jz
     have w2:(cw W).view=cw W:=jT
     generalize cw W=FW at *
     have ap:=oM [FW,v.view,.int .i64 p.funcs[k].a] rfl
     have v2:=bE v1
     have v3:=cC v1
     have v4:aJ v.view=true:=by rw[rD];exact v1
     generalize aB 4 (p.funcs[k].params.map PD.cells)=PP at *
     generalize bD p.funcs[k].body=PB at *
     generalize cw (aS p).sigs[k].ps=SP at *
     generalize cD 3 (bs.map Bd.row)=BL at *
     generalize p.funcs[k]=fk at *
     generalize (aS p).sigs[k]=gk at *
     simp[-au,-ag,bP,vO,f3,f4,aev,VG,RP,ZR,t4,t5,t6,ps1,ps2,bd1,bd2,sp2,hB,w1,w2,v4,ap,l5,hcf,af,AV.view,AV.an,AV.ah,aC,aA]
    |ok x=>
     obtain⟨c,W⟩:=x
     rw[hR]at hp hB
     simp only at hp hB
     have eU:=λb7=>ih (k+1,bs++[⟨W,c,p.funcs[k].a⟩],(d.lY (aS p).sigs[k]).bN W,b7) ⟨by simp only;omega,by simp[hbs],hd,hdf,hp⟩ (by simp only;omega)
     simp only[List.map_append,List.map_cons,List.map_nil,Bd.row]at eU
     have l5:=λaa=>cG aa ((d.lY (aS p).sigs[k]).bN W) []
     rw[decide_eq_true (show ((d.lY (aS p).sigs[k]).bN W).fe=0 from hdf)]at l5
     generalize ((d.lY (aS p).sigs[k]).bN W).bC=o1 at *
     have w1:aJ (cw W)=true:=jz
     have w2:(cw W).view=cw W:=jT
     generalize cw W=FW at *
     have ap:=oM [FW,bD c,.int .i64 p.funcs[k].a] rfl
     have c1:aJ (cD 9 (Sm.rows c))=true:=dz
     have c2:(cD 9 (Sm.rows c)).view=bD c:=rfl
     have c3:=bE c1
     have c4:=cC c1
     have c5:aJ (bD c)=true:=bL
     generalize cD 9 (Sm.rows c)=MC at *
     generalize bD c=SC at *
     generalize aB 4 (p.funcs[k].params.map PD.cells)=PP at *
     generalize bD p.funcs[k].body=PB at *
     generalize cw (aS p).sigs[k].ps=SP at *
     have n1:aJ (cD 3 (bs.map Bd.row++[[FW,SC,.int .i64 p.funcs[k].a]]))=true:=dz
     generalize cD 3 (bs.map Bd.row++[[FW,SC,.int .i64 p.funcs[k].a]])=BN at *
     generalize cD 3 (bs.map Bd.row)=BL at *
     generalize p.funcs[k]=fk at *
     generalize (aS p).sigs[k]=gk at *
     simp[-au,-ag,bP,vO,tE,f3,f4,aev,VG,RP,ZR,t4,t5,t6,ps1,ps2,bd1,bd2,sp2,hB,w1,w2,c2,c5,n1,ap,l5,af,AV.view,AV.an,AV.ah,aC,aA]
     exact eU _
   ·have jq:k=p.funcs.length:=by omega
    have hR:q8 (aS p) (aS p).sigs p.funcs=.ok bs:=by
     rw[<-hp,jq,List.drop_length,<-dV,List.drop_length]
     simp[q8,NW]
    rw[hR]
    have n1:aJ (cD 3 (bs.map Bd.row))=true:=dz
    have n2:(cD 3 (bs.map Bd.row)).view=aB 3 (bs.map Bd.row):=rfl
    have n3:=bE n1
    have n4:aJ (aB 3 (bs.map Bd.row))=true:=bp
    simp only[CZ,nK]
    rw[hHS,hHG,hGL]
    generalize cD 3 (bs.map Bd.row)=BL at *
    generalize aB 3 (bs.map Bd.row)=BV at *
    simp[-au,-ag,vO,t1,t2,t3,t4,gl1,gl2,n2,n4,af,AV.view]
end K9
