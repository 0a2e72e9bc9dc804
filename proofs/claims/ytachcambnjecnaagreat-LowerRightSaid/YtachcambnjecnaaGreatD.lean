/- Part of a proof. -/
import Derived.Test.YtachcambnjecnaaGreatC
import Derived.Test.YtachcambnjecnaaGreatP
import Derived.Test.YtachcambnjecnaaGreatN

set_option maxRecDepth 100000
set_option maxHeartbeats 8000000
namespace K9
open Ax Go aT V7 lP mV
theorem Ci {P:Prop}{es:List E}(h:es.length=1)(hp:∀e,es=[e]->P):P:=by
 match es,h with
 |[e],_=>exact hp e rfl
theorem jO (aa:Nat)(c:CK)(s:Sm)(_hn:s.es.length<1000000000):(aU S).call 0 aa 120 [.ptr 0 0 0 0,.agg s.row] [c.obj]=some (.bool (dK c.sg.has s.k s.es),[c.obj]):=by
 have cR:=Sm.aH s
 have hz:cD 11 (aY s.es)=true:=qF
 have dM:aG (aY s.es)=true:=bw
 have iq:(aY s.es).view=aY s.es:=bF
 have fo:aP (aY s.es)=E.rows s.es:=aO
 have m0:((s.es.length:Int)=0)=(s.es.length=0):=by simp
 have m1:((s.es.length:Int)=1)=(s.es.length=1):=by apply propext;omega
 have m2:((s.es.length:Int)=2)=(s.es.length=2):=by apply propext;omega
 rw[cR]
 generalize s.k=k at *
 unfold dK
 by_cases h1:k=1
 ·subst h1
  refine ay (sf:=mP) rfl rfl rfl ?_
  generalize aY s.es=kv at *
  simp[-ax,-ah,mP,dM,iq,fo,AV.view]
 by_cases h4:k=4
 ·subst h4
  refine ay (sf:=mP) rfl rfl rfl ?_
  simp only[if_neg h1,if_true]
  match qK:s.es,fo,m2 with
  |[e,e2],fo,m2=>
   rw[qK]at hz dM iq
   simp only[E.rows]at fo
   rw[E.aH e,E.aH e2]at fo
   generalize aY [e,e2]=kv at *
   by_cases q:e.k=5
   ·simp[-ax,-ah,mP,bL,hz,dM,iq,fo,q,AV.view]
   ·simp[-ax,-ah,mP,bL,hz,dM,iq,fo,q,AV.view]
  |[],fo,m2=>
   rw[qK]at hz dM iq
   generalize aY []=kv at *
   simp[-ax,-ah,mP,dM,iq,fo,E.rows,AV.view]
  |[e],fo,m2=>
   rw[qK]at hz dM iq
   simp only[E.rows]at fo
   generalize aY [e]=kv at *
   simp[-ax,-ah,mP,dM,iq,fo,AV.view]
  |e::e2::e3::l,fo,m2=>
   rw[qK]at hz dM iq
   have hl3:¬((E.rows (e::e2::e3::l)).length:Int)=2:=by simp;omega
   generalize aY (e::e2::e3::l)=kv at *
   generalize E.rows (e::e2::e3::l)=rws at *
   simp[-ax,-ah,mP,dM,iq,fo,hl3,AV.view]
 by_cases h7:k=7
 ·subst h7
  refine ay (sf:=mP) rfl rfl rfl ?_
  simp only[if_neg h1,if_neg h4,if_true]
  generalize aY s.es=kv at *
  have hc:=λwl aa r bx=>adw (wl:=wl) (aa:=aa) (c:=c) (r:=r) (bx:=bx)
  cases hh:c.sg.has with
  |false=>
   rw[hh]at hc
   by_cases q1:s.es.length=1
   ·simp[-ax,-ah,mP,dM,iq,fo,q1,hc,AV.view]
   ·by_cases q0:s.es.length=0
    ·simp[-ax,-ah,mP,dM,iq,fo,q0,hc,AV.view]
    ·simp[-ax,-ah,mP,dM,iq,fo,m1,q0,q1,AV.view]
  |true=>
   rw[hh]at hc
   by_cases q1:s.es.length=1
   ·simp[-ax,-ah,mP,dM,iq,fo,q1,hc,AV.view]
   ·by_cases q0:s.es.length=0
    ·simp[-ax,-ah,mP,dM,iq,fo,q0,hc,AV.view]
    ·simp[-ax,-ah,mP,dM,iq,fo,m1,q0,q1,AV.view]
 by_cases h9:k=9
 ·subst h9
  refine ay (sf:=mP) rfl rfl rfl ?_
  simp only[if_neg h1,if_neg h4,if_neg h7,if_true]
  match qK:s.es,fo,m2 with
  |[e],fo,m2=>
   rw[qK]at hz dM iq
   simp only[E.rows]at fo
   rw[E.aH e]at fo
   generalize aY [e]=kv at *
   simp[-ax,-ah,mP,bL,hz,dM,iq,fo,AV.view]
  |[],fo,m2=>
   rw[qK]at hz dM iq
   generalize aY []=kv at *
   simp[-ax,-ah,mP,dM,iq,fo,E.rows,AV.view]
  |e::e2::l,fo,m2=>
   rw[qK]at hz dM iq
   have hl3:¬((E.rows (e::e2::l)).length:Int)=1:=by simp;omega
   generalize aY (e::e2::l)=kv at *
   generalize E.rows (e::e2::l)=rws at *
   simp[-ax,-ah,mP,dM,iq,fo,hl3,AV.view]
 refine ay (sf:=mP) rfl rfl rfl ?_
 simp only[if_neg h1,if_neg h4,if_neg h7,if_neg h9]
 generalize aY s.es=kv at *
 by_cases h2:k=2
 ·subst h2
  simp[-ax,-ah,mP,dM,iq,fo,m1,AV.view]
 by_cases h3:k=3
 ·subst h3
  simp[-ax,-ah,mP,dM,iq,fo,m1,AV.view]
 by_cases h5:k=5
 ·subst h5
  simp[-ax,-ah,mP,dM,iq,fo,m1,AV.view]
 by_cases h6:k=6
 ·subst h6
  simp[-ax,-ah,mP,dM,iq,fo,m1,AV.view]
 by_cases h8:k=8
 ·subst h8
  simp[-ax,-ah,mP,dM,iq,fo,m1,AV.view]
 simp[-ax,-ah,mP,h1,h2,h3,h4,h5,h6,h7,h8,h9,dM,AV.view]
def YT (o:Option (Int×List Vd))(v:AV):Prop:=∃z:Int,v=.fz [.int .i64 z,.bool o.isSome]/\∀r W,o=some (r,W)->z=r
def lu (c:CK)(o:Option (Int×List Vd)):CK:=match o with|some (_,W)=>{ c with V:=W } | none=>c
theorem U0 (aa:Nat)(c:CK)(s:Sm)(t:T3)(hs:Small c)(hf:dK c.sg.has s.k s.es=true) :
  ∃v,YT (jR c.H c.sg.res c.V s.k s.nm s.es t) v/\(aU S).call 0 aa 124 [.ptr 0 0 0 0,.agg s.row,.agg [.int .i64 t.b,.int .i64 t.r,.int .i64 t.d]] [c.obj]=some (v,[(lu c (jR c.H c.sg.res c.V s.k s.nm s.es t)).obj]):=by
 have eD:=λaa=>JP aa c s.nm t hs
 have eV:=λaa=>zy aa c s.nm [] hs
 have eN:=λwl aa st=>yH wl aa st
 have eT:=λwl aa st=>Cf wl aa st
 have cR:=Sm.aH s
 have hz:cD 11 (aY s.es)=true:=qF
 have dM:aG (aY s.es)=true:=bw
 have iq:(aY s.es).view=aY s.es:=bF
 have fo:aP (aY s.es)=E.rows s.es:=aO
 have one:∀j,s.k=j->(j=2\/j=3\/j=5\/j=6\/j=8)->∃x,s.es=[x]:=λj hj h=>by
  have hlen:s.es.length=1:=by
   rw[hj]at hf
   rcases h with h|h|h|h|h<;>subst h<;>simpa [dK] using hf
  match hh:s.es,hlen with
  |[x],_=>exact⟨x,rfl⟩
 have hV:=hs.V
 rw[cR]
 unfold jR
 by_cases h1:s.k=1
 ·rw[if_pos h1,h1]
  cases hl:gK s.nm 0 c.V with
  |some x=>
   refine⟨.fz [.int .i64 0,.bool false],⟨0,rfl,λ_ _ h=>by cases h⟩,?_⟩
   rw[hl]at eD
   simp only[Cg]at eD
   refine ay (sf:=lK) rfl rfl rfl ?_
   generalize aY s.es=kv at *
   simp[-ax,-ah,lK,eD,dM,lu,AV.view]
  |none=>
   refine⟨.fz [.int .i64 c.V.length,.bool true],⟨c.V.length,rfl,λ_ _ h=>by cases h;rfl⟩,?_⟩
   rw[hl]at eD
   simp only[Cg]at eD
   simp only[lu]
   refine ay (sf:=lK) rfl rfl rfl ?_
   generalize aY s.es=kv at *
   generalize ({ c with V:=c.V++[(⟨s.nm,t⟩:Vd)] }:CK).obj=WN at *
   simp[-ax,-ah,lK,eD,dM,AV.view]
 rw[if_neg h1]
 by_cases h2:s.k=2
 ·obtain⟨x,hx⟩:=one 2 h2 (by simp)
  rw[if_pos h2,h2]
  have a1:vR s.es=x.ty:=by rw[hx];rfl
  rw[a1]
  rw[show E.rows s.es=E.rows [x] from by rw[hx]]at fo
  simp only[E.rows,E.aH]at fo
  generalize aY s.es=kv at *
  by_cases q:x.ty=t
  ·rw[if_pos q]
   rw[<-q]at eD ⊢
   cases hl:gK s.nm 0 c.V with
   |some y=>
    refine⟨.fz [.int .i64 0,.bool false],⟨0,rfl,λ_ _ h=>by cases h⟩,?_⟩
    rw[hl]at eD
    simp only[Cg]at eD
    refine ay (sf:=lK) rfl rfl rfl ?_
    simp[-ax,-ah,lK,eD,hz,dM,iq,fo,bL,lu,AV.view,aA,az]
   |none=>
    refine⟨.fz [.int .i64 c.V.length,.bool true],⟨c.V.length,rfl,λ_ _ h=>by cases h;rfl⟩,?_⟩
    rw[hl]at eD
    simp only[Cg]at eD
    simp only[lu]
    refine ay (sf:=lK) rfl rfl rfl ?_
    generalize ({ c with V:=c.V++[(⟨s.nm,x.ty⟩:Vd)] }:CK).obj=WN at *
    simp[-ax,-ah,lK,eD,hz,dM,iq,fo,bL,AV.view,aA,az]
  ·rw[if_neg q]
   refine⟨.fz [.int .i64 0,.bool false],⟨0,rfl,λ_ _ h=>by cases h⟩,?_⟩
   refine ay (sf:=lK) rfl rfl rfl ?_
   simp[-ax,-ah,lK,hz,dM,iq,fo,bL,dU,q,lu,AV.view,aA,az]
 rw[if_neg h2]
 by_cases h3:s.k=3
 ·obtain⟨x,hx⟩:=one 3 h3 (by simp)
  rw[if_pos h3,h3]
  have a1:vR s.es=x.ty:=by rw[hx];rfl
  rw[a1]
  rw[show E.rows s.es=E.rows [x] from by rw[hx]]at fo
  simp only[E.rows,E.aH]at fo
  generalize aY s.es=kv at *
  cases hv:tf c.H c.V s.nm with
  |none=>
   refine⟨.fz [.int .i64 0,.bool false],⟨0,rfl,λ_ _ h=>by cases h⟩,?_⟩
   rw[hv]at eV
   simp only[HY]at eV
   refine ay (sf:=lK) rfl rfl rfl ?_
   simp[-ax,-ah,lK,eV,dM,lu,af,AV.view,aA,az]
  |some y=>
   obtain⟨u,r⟩:=y
   rw[hv]at eV
   simp only[HY]at eV
   by_cases q:u=x.ty
   ·refine⟨.fz [.int .i64 r,.bool true],⟨r,by simp[q],λ_ _ h=>by simp[q]at h;exact h.1⟩,?_⟩
    simp only[if_pos q]
    refine ay (sf:=lK) rfl rfl rfl ?_
    simp[-ax,-ah,lK,eV,hz,dM,iq,fo,bL,q,lu,af,AV.view,aA,az]
   ·refine⟨.fz [.int .i64 r,.bool false],⟨r,by simp[q],λ_ _ h=>by simp[q]at h⟩,?_⟩
    simp only[if_neg q]
    refine ay (sf:=lK) rfl rfl rfl ?_
    simp[-ax,-ah,lK,eV,hz,dM,iq,fo,bL,dU,q,lu,af,AV.view,aA,az]
 rw[if_neg h3]
 have fin:∀(p:Prop) [Decidable p],YT (if p then some ((0:Int),c.V) else none) (.fz [.int .i64 0,.bool (decide p)]):=λp _=>by
  refine⟨0,?_,λr W h=>?_⟩
  ·by_cases q:p<;>simp[q]
  ·split at h<;>cases h;rfl
 have Q5:∀(p:Prop) [Decidable p],lu c (if p then some ((0:Int),c.V) else none)=c:=λp _=>by
  by_cases q:p<;>simp[q,lu]
 by_cases h4:s.k=4
 ·rw[if_pos h4,h4]
  obtain⟨x,y,hx⟩:∃x y,s.es=[x,y]:=by
   rw[h4]at hf
   unfold dK at hf
   match hh:s.es,hf with
   |[x,y],_=>exact⟨x,y,rfl⟩
  have a1:vR s.es=x.ty:=by rw[hx];rfl
  have a2:C7 s.es=y.ty:=by rw[hx];rfl
  rw[a1,a2]
  rw[show E.rows s.es=E.rows [x,y] from by rw[hx]]at fo
  simp only[E.rows,E.aH]at fo
  generalize aY s.es=kv at *
  refine⟨_,fin _,?_⟩
  rw[Q5]
  refine ay (sf:=lK) rfl rfl rfl ?_
  simp[-ax,-ah,lK,hz,dM,iq,fo,bL,dU,AV.view,aA,az]
 rw[if_neg h4]
 by_cases h5:s.k=5
 ·obtain⟨x,hx⟩:=one 5 h5 (by simp)
  rw[if_pos (.inl h5),h5]
  have a1:vR s.es=x.ty:=by rw[hx];rfl
  rw[a1]
  rw[show E.rows s.es=E.rows [x] from by rw[hx]]at fo
  simp only[E.rows,E.aH]at fo
  generalize aY s.es=kv at *
  refine⟨_,fin _,?_⟩
  rw[Q5]
  refine ay (sf:=lK) rfl rfl rfl ?_
  simp[-ax,-ah,lK,hz,dM,iq,fo,bL,eT,dB,AV.view,aA,az]
 by_cases h6:s.k=6
 ·obtain⟨x,hx⟩:=one 6 h6 (by simp)
  rw[if_pos (.inr h6),h6]
  have a1:vR s.es=x.ty:=by rw[hx];rfl
  rw[a1]
  rw[show E.rows s.es=E.rows [x] from by rw[hx]]at fo
  simp only[E.rows,E.aH]at fo
  generalize aY s.es=kv at *
  refine⟨_,fin _,?_⟩
  rw[Q5]
  refine ay (sf:=lK) rfl rfl rfl ?_
  simp[-ax,-ah,lK,hz,dM,iq,fo,bL,eT,dB,AV.view,aA,az]
 rw[if_neg (λh=>h.elim h5 h6)]
 by_cases h7:s.k=7
 ·rw[if_pos h7,h7]
  refine⟨_,fin _,?_⟩
  rw[Q5]
  rw[h7]at hf
  refine ay (sf:=lK) rfl rfl rfl ?_
  match qK:s.es with
  |[]=>
   rw[qK]at hz dM iq fo
   generalize aY []=kv at *
   simp[-ax,-ah,lK,dM,iq,fo,E.rows,AV.view,aA,az]
  |[x]=>
   rw[qK]at hz dM iq fo
   simp only[E.rows,E.aH]at fo
   generalize aY [x]=kv at *
   have a1:vR [x]=x.ty:=rfl
   have cr:=λwl aa r bx=>adx (wl:=wl) (aa:=aa) (c:=c) (r:=r) (bx:=bx)
   simp[-ax,-ah,lK,hz,dM,iq,fo,bL,cr,dU,a1,AV.view,aA,az]
  |x::y::l=>
   rw[qK]at hf
   simp[dK]at hf
 rw[if_neg h7]
 by_cases h8:s.k=8
 ·obtain⟨x,hx⟩:=one 8 h8 (by simp)
  rw[if_pos h8,h8]
  have a1:vR s.es=x.ty:=by rw[hx];rfl
  rw[a1]
  rw[show E.rows s.es=E.rows [x] from by rw[hx]]at fo
  simp only[E.rows,E.aH]at fo
  generalize aY s.es=kv at *
  refine⟨_,fin _,?_⟩
  rw[Q5]
  refine ay (sf:=lK) rfl rfl rfl ?_
  simp[-ax,-ah,lK,hz,dM,iq,fo,bL,eN,dI,AV.view,aA,az]
 rw[if_neg h8]
 refine⟨.fz [.int .i64 0,.bool true],⟨0,rfl,λ_ _ h=>by cases h;rfl⟩,?_⟩
 simp only[lu]
 refine ay (sf:=lK) rfl rfl rfl ?_
 generalize aY s.es=kv at *
 simp[-ax,-ah,lK,h1,h2,h3,h4,h5,h6,h7,h8,dM,AV.view]
end K9
namespace K9
open Ax Go aT V7 lP mV
def CK.bK (c:CK)(W:List Vd):CK:={ c with V:=W }
def Q6 (r:List AV):Prop:=∃(k:Int)(nm on:List UInt8)(od:Int)(es bd el:AV)(a ref:Int),r=[.int .i64 k,.str nm,.str on,.int .i64 od,es,bd,el,.int .i64 a,.int .i64 ref]/\aG es=true/\aG bd=true/\aG el=true
abbrev Z9:List AV:=[.int .i64 0,.str [],.str [],.int .i64 0,.U,.U,.U,.int .i64 0,.int .i64 0]
theorem qG:Q6 Z9:=⟨0,[],[],0,.U,.U,.U,0,0,rfl,rfl,rfl,rfl⟩
def ya (c:CK)(s:Sm):Prop:=match wF c.H c.sg.has c.sg.res c.V s with
 |.ok (y,W)=>∀aa,(aU S).call 0 aa 100 [.ptr 0 0 0 0,.agg s.row] [c.obj]=some (.agg y.row,[(c.bK W).obj])
 |.error a=>∀aa,∃W row,Q6 row/\(aU S).call 0 aa 100 [.ptr 0 0 0 0,.agg s.row] [c.obj]=some (.agg row,[((c.bK W).fail a).obj])
def JO (c:CK)(l:List Sm):Prop:=match kQ c.H c.sg.has c.sg.res c.V l with
 |.ok (ys,W)=>∀aa,(aU S).call 0 aa 83 [.ptr 0 0 0 0,bz l] [c.obj]=some (cp 9 (Sm.rows ys),[(c.bK W).obj])
 |.error a=>∀aa,∃W v,aG v=true/\(aU S).call 0 aa 83 [.ptr 0 0 0 0,bz l] [c.obj]=some (v,[((c.bK W).fail a).obj])
theorem Ft {c:CK}{W:List Vd}(h:Way c)(hW:∀f∈W,WT c.H.rs.length f.ty)(hl:W.length<1000000000):Way (c.bK W):=⟨⟨hl,h.s.G,h.s.S,h.s.R,h.s.F,h.s.P⟩,h.H,hW⟩
theorem D5 (aa:Nat)(c:CK)(l:List Sm)(hf:c.fe≠0)(hn:l.length<1000000000):(aU S).call 0 aa 83 [.ptr 0 0 0 0,bz l] [c.obj]=some (.U,[c.obj]):=by
 have hz:cD 9 (bz l)=true:=Fo
 have dM:aG (bz l)=true:=bJ
 have iq:(bz l).view=bz l:=bM
 have fo:aP (bz l)=Sm.rows l:=aO
 have jK:=λaa=>cu aa c []
 rw[decide_eq_false hf]at jK
 refine ay (sf:=Wf) rfl rfl rfl ?_
 cases l with
 |nil=>
  generalize bz []=lv at *
  rw[Sm.rows]at fo
  simp[-ax,-ah,Wf,dM,iq,fo]
  rw[EJ BM.eq_1]
  simp[-ax,-ah]
 |cons s l=>
  have hlen:0<(Sm.rows (s::l)).length:=by simp
  have hg:(Sm.rows (s::l))[0]?=some s.row:=by simp[Sm.rows]
  have Fu:∀h:0<(Sm.rows (s::l)).length,(Sm.rows (s::l))[0]=s.row:=λh=>by simp[Sm.rows]
  generalize bz (s::l)=lv at *
  generalize Sm.rows (s::l)=rws at *
  rw[Sm.aH]at hg
  have Wu:0<rws.length:=hlen
  have adA:=Fu Wu
  rw[Sm.aH]at adA
  simp[-ax,-ah,Wf,dM,iq,fo]
  rw[EJ BM.eq_1]
  simp[-ax,-ah,iq,fo,hz,Wu,adA,bL,jK,af,AV.view]
theorem oI (aa:Nat)(c:CK)(k:Int)(nm on:List UInt8)(od:Int)(ys:List E)(a:Int)(t:T3)(hs:Small c)(hf:dK c.sg.has k ys=true) :
  ∃v,YT (jR c.H c.sg.res c.V k nm ys t) v/\(aU S).call 0 aa 124 [.ptr 0 0 0 0,.agg (Sm.mk k nm on od ys [] [] a 0).row,.agg [.int .i64 t.b,.int .i64 t.r,.int .i64 t.d]] [c.obj]=some (v,[(lu c (jR c.H c.sg.res c.V k nm ys t)).obj]):=
 U0 aa c (.mk k nm on od ys [] [] a 0) t hs hf
theorem YU (c:CK)(s:Sm)(hn:s.es.length<1000000000)(h:dK c.sg.has s.k s.es=false):ya c s:=by
 unfold ya
 rw[pM,h]
 simp only[Bool.false_eq_true,if_false]
 intro aa
 refine⟨c.V,Z9,qG,?_⟩
 have lE:=λaa=>jO aa c s hn
 rw[h]at lE
 have en:=λwl aa st=>jX wl aa st
 have As:=λaa=>dQ aa c s.a []
 have mI:c.bK c.V=c:=rfl
 rw[mI]
 rw[Sm.aH s]at lE ⊢
 generalize (c.fail s.a).obj=o at *
 refine ay (sf:=eF) rfl rfl rfl ?_
 simp[-ax,-ah,eF,lE,en,As,af,AV.view,AV.au,AV.ai,aB,aI]
theorem YW (c:CK)(s:Sm)(hf:c.fe=0)(hw:Way c)(dZ:c.V.length+Sm.sz s<1000000000)(hk:s.k=1)(h:dK c.sg.has s.k s.es=true):ya c s:=by
 unfold ya
 have hz:=Sm.nK s
 have KL:=E.ff s.es
 have lE:=λaa=>jO aa c s (by omega)
 rw[h]at lE
 have en:=λwl aa st=>jX wl aa st
 have As:=λaa=>dQ aa c s.a []
 have lQ:=λaa=>cu aa c []
 rw[decide_eq_true hf]at lQ
 have mI:c.bK c.V=c:=rfl
 have cR:=Sm.aH s
 rw[hk]at cR
 rw[pM,h]
 rw[hk]at h ⊢
 simp only[if_true]
 rw[cR]at lE ⊢
 have e1:aG (aY s.es)=true:=bw
 have e2:(aY s.es).view=aY s.es:=bF
 have b1:aG (bz s.bd)=true:=bJ
 have b2:(bz s.bd).view=bz s.bd:=bM
 have l1:aG (bz s.el)=true:=bJ
 have l2:(bz s.el).view=bz s.el:=bM
 have cx:=kJ c s.es hf (by omega) (λe he=>gG c hf hw e (by have:=E.iW he;omega))
 have ur:An c.H c.V 1 s.es=nJ c.H c.V s.es:=mj (by decide)
 have uq:=λwl aa st=>xO wl aa c.H.rs s.on s.od st hw.s.R
 have H8:lD c.H 1 s.on s.od=if (cM c.H.rs s.on s.od).2 then some (cM c.H.rs s.on s.od).1 else none:=if_pos (by decide)
 rw[H8]
 unfold Ws at uq
 have UZ:=kH c.H.rs s.on s.od
 generalize cM c.H.rs s.on s.od=tt at *
 obtain⟨t,b⟩:=tt
 cases b with
 |false=>
  simp only[Bool.false_eq_true,if_false]
  intro aa
  refine⟨c.V,Z9,qG,?_⟩
  rw[mI]
  simp only at uq
  generalize aY s.es=ev at *
  generalize bz s.bd=bv at *
  generalize bz s.el=lv at *
  generalize (c.fail s.a).obj=o at *
  refine ay (sf:=eF) rfl rfl rfl ?_
  simp[-ax,-ah,eF,lE,en,e1,e2,b1,b2,l1,l2,wI,uq,As,af,AV.view,AV.au,AV.ai,aA,aB,aI,az]
 |true=>
 simp only[if_true]
 simp only at uq
 rw[ur]
 cases hv:nJ c.H c.V s.es with
 |error a=>
  rw[hv]at cx
  simp only at cx ⊢
  intro aa
  refine⟨c.V,Z9,qG,?_⟩
  rw[mI]
  obtain⟨v,dM,ev⟩:=cx 1
  have CX:=bD dM
  have MZ:=bC dM
  have jK:=λaa=>cu aa (c.fail a) []
  rw[decide_eq_false iX]at jK
  generalize aY s.es=kv at *
  generalize bz s.bd=bv at *
  generalize bz s.el=lv at *
  generalize (c.fail a).obj=o at *
  refine ay (sf:=eF) rfl rfl rfl ?_
  simp[-ax,-ah,eF,lE,en,e1,e2,b1,b2,l1,l2,wI,uq,ev,dM,jK,af,AV.view,AV.au,AV.ai,aA,aB,aI,az]
 |ok ys=>
  rw[hv]at cx
  simp only at cx ⊢
  have nM:dK c.sg.has 1 ys=true:=mh hv h
  obtain⟨fv,⟨z,rfl,mC⟩,cH⟩:=oI 1 c 1 (cq 1 s.nm) (bN 1 s.on) (bO 1 s.od) ys s.a t hw.s nM
  simp only[mm]at mC cH
  have kN:(Sm.mk 1 (cq 1 s.nm) (bN 1 s.on) (bO 1 s.od) ys [] [] s.a 0).row=[.int .i64 1,.str s.nm,.str s.on,.int .i64 s.od,aY ys,.U,.U,.int .i64 s.a,.int .i64 0]:=by simp[Sm.row,Sm.rows,cq,bN,bO]
  rw[kN]at cH
  have m1:aG (cp 11 (E.rows ys))=true:=dm
  have m2:(cp 11 (E.rows ys)).view=aY ys:=rfl
  generalize cp 11 (E.rows ys)=mv at *
  have m3:=bD m1
  have m4:=bC m1
  have y1:aG (aY ys)=true:=bw
  have y2:(aY ys).view=aY ys:=bF
  generalize Fv:aY ys=yv at *
  generalize aY s.es=kv at *
  cases hT:jR c.H c.sg.res c.V 1 s.nm ys t with
  |none=>
   simp only
   intro aa
   refine⟨c.V,Z9,qG,?_⟩
   rw[mI]
   rw[hT]at cH
   simp only[Option.isSome_none,lu]at cH
   generalize bz s.bd=bv at *
   generalize bz s.el=lv at *
   generalize (c.fail s.a).obj=o at *
   refine ay (sf:=eF) rfl rfl rfl ?_
   simp[-ax,-ah,eF,lE,en,e1,e2,b1,b2,l1,l2,wI,uq,cx,m1,m2,lQ,cH,As,af,AV.view,AV.au,AV.ai,aA,aB,aI,az]
  |some x=>
   obtain⟨r,W⟩:=x
   have mC:=mC r W hT
   subst mC
   rw[hT]at cH
   simp only[Option.isSome_some,lu]at cH
   have H9:({ c with V:=W }:CK)=c.bK W:=rfl
   rw[H9]at cH
   simp only[show ¬((1:Int)=5) from by decide,show ¬((1:Int)=6) from by decide,if_false]
   intro aa
   have wT:(Sm.mk 1 (cq 1 s.nm) (bN 1 s.on) (bO 1 s.od) ys [] [] s.a z).row=[.int .i64 1,.str s.nm,.str s.on,.int .i64 s.od,yv,.U,.U,.int .i64 s.a,.int .i64 z]:=by simp[Sm.row,Sm.rows,cq,bN,bO,Fv]
   show _=some (AV.agg (Sm.mk 1 (cq 1 s.nm) (bN 1 s.on) (bO 1 s.od) ys [] [] s.a z).row,_)
   rw[wT]
   generalize bz s.bd=bv at *
   generalize bz s.el=lv at *
   generalize (c.bK W).obj=o at *
   refine ay (sf:=eF) rfl rfl rfl ?_
   simp[-ax,-ah,eF,lE,en,e1,e2,b1,b2,l1,l2,wI,uq,cx,m1,m2,y1,lQ,cH,af,AV.view,AV.au,AV.ai,aA,aB,aI,az]
theorem YX (c:CK)(s:Sm)(hf:c.fe=0)(hw:Way c)(dZ:c.V.length+Sm.sz s<1000000000)(hk:s.k=2)(h:dK c.sg.has s.k s.es=true):ya c s:=by
 unfold ya
 have hz:=Sm.nK s
 have KL:=E.ff s.es
 have lE:=λaa=>jO aa c s (by omega)
 rw[h]at lE
 have en:=λwl aa st=>jX wl aa st
 have As:=λaa=>dQ aa c s.a []
 have lQ:=λaa=>cu aa c []
 rw[decide_eq_true hf]at lQ
 have mI:c.bK c.V=c:=rfl
 have cR:=Sm.aH s
 rw[hk]at cR
 rw[pM,h]
 rw[hk]at h ⊢
 simp only[if_true]
 rw[cR]at lE ⊢
 have e1:aG (aY s.es)=true:=bw
 have e2:(aY s.es).view=aY s.es:=bF
 have b1:aG (bz s.bd)=true:=bJ
 have b2:(bz s.bd).view=bz s.bd:=bM
 have l1:aG (bz s.el)=true:=bJ
 have l2:(bz s.el).view=bz s.el:=bM
 have cx:=kJ c s.es hf (by omega) (λe he=>gG c hf hw e (by have:=E.iW he;omega))
 have ur:An c.H c.V 2 s.es=nJ c.H c.V s.es:=mj (by decide)
 have uq:=λwl aa st=>xO wl aa c.H.rs s.on s.od st hw.s.R
 have H8:lD c.H 2 s.on s.od=if (cM c.H.rs s.on s.od).2 then some (cM c.H.rs s.on s.od).1 else none:=if_pos (by decide)
 rw[H8]
 unfold Ws at uq
 have UZ:=kH c.H.rs s.on s.od
 generalize cM c.H.rs s.on s.od=tt at *
 obtain⟨t,b⟩:=tt
 cases b with
 |false=>
  simp only[Bool.false_eq_true,if_false]
  intro aa
  refine⟨c.V,Z9,qG,?_⟩
  rw[mI]
  simp only at uq
  generalize aY s.es=ev at *
  generalize bz s.bd=bv at *
  generalize bz s.el=lv at *
  generalize (c.fail s.a).obj=o at *
  refine ay (sf:=eF) rfl rfl rfl ?_
  simp[-ax,-ah,eF,lE,en,e1,e2,b1,b2,l1,l2,wI,uq,As,af,AV.view,AV.au,AV.ai,aA,aB,aI,az]
 |true=>
 simp only[if_true]
 simp only at uq
 rw[ur]
 cases hv:nJ c.H c.V s.es with
 |error a=>
  rw[hv]at cx
  simp only at cx ⊢
  intro aa
  refine⟨c.V,Z9,qG,?_⟩
  rw[mI]
  obtain⟨v,dM,ev⟩:=cx 1
  have CX:=bD dM
  have MZ:=bC dM
  have jK:=λaa=>cu aa (c.fail a) []
  rw[decide_eq_false iX]at jK
  generalize aY s.es=kv at *
  generalize bz s.bd=bv at *
  generalize bz s.el=lv at *
  generalize (c.fail a).obj=o at *
  refine ay (sf:=eF) rfl rfl rfl ?_
  simp[-ax,-ah,eF,lE,en,e1,e2,b1,b2,l1,l2,wI,uq,ev,dM,jK,af,AV.view,AV.au,AV.ai,aA,aB,aI,az]
 |ok ys=>
  rw[hv]at cx
  simp only at cx ⊢
  have nM:dK c.sg.has 2 ys=true:=mh hv h
  obtain⟨fv,⟨z,rfl,mC⟩,cH⟩:=oI 1 c 2 (cq 2 s.nm) (bN 2 s.on) (bO 2 s.od) ys s.a t hw.s nM
  simp only[mm]at mC cH
  have kN:(Sm.mk 2 (cq 2 s.nm) (bN 2 s.on) (bO 2 s.od) ys [] [] s.a 0).row=[.int .i64 2,.str s.nm,.str s.on,.int .i64 s.od,aY ys,.U,.U,.int .i64 s.a,.int .i64 0]:=by simp[Sm.row,Sm.rows,cq,bN,bO]
  rw[kN]at cH
  have m1:aG (cp 11 (E.rows ys))=true:=dm
  have m2:(cp 11 (E.rows ys)).view=aY ys:=rfl
  generalize cp 11 (E.rows ys)=mv at *
  have m3:=bD m1
  have m4:=bC m1
  have y1:aG (aY ys)=true:=bw
  have y2:(aY ys).view=aY ys:=bF
  generalize Fv:aY ys=yv at *
  generalize aY s.es=kv at *
  cases hT:jR c.H c.sg.res c.V 2 s.nm ys t with
  |none=>
   simp only
   intro aa
   refine⟨c.V,Z9,qG,?_⟩
   rw[mI]
   rw[hT]at cH
   simp only[Option.isSome_none,lu]at cH
   generalize bz s.bd=bv at *
   generalize bz s.el=lv at *
   generalize (c.fail s.a).obj=o at *
   refine ay (sf:=eF) rfl rfl rfl ?_
   simp[-ax,-ah,eF,lE,en,e1,e2,b1,b2,l1,l2,wI,uq,cx,m1,m2,lQ,cH,As,af,AV.view,AV.au,AV.ai,aA,aB,aI,az]
  |some x=>
   obtain⟨r,W⟩:=x
   have mC:=mC r W hT
   subst mC
   rw[hT]at cH
   simp only[Option.isSome_some,lu]at cH
   have H9:({ c with V:=W }:CK)=c.bK W:=rfl
   rw[H9]at cH
   simp only[show ¬((2:Int)=5) from by decide,show ¬((2:Int)=6) from by decide,if_false]
   intro aa
   have wT:(Sm.mk 2 (cq 2 s.nm) (bN 2 s.on) (bO 2 s.od) ys [] [] s.a z).row=[.int .i64 2,.str s.nm,.str s.on,.int .i64 s.od,yv,.U,.U,.int .i64 s.a,.int .i64 z]:=by simp[Sm.row,Sm.rows,cq,bN,bO,Fv]
   show _=some (AV.agg (Sm.mk 2 (cq 2 s.nm) (bN 2 s.on) (bO 2 s.od) ys [] [] s.a z).row,_)
   rw[wT]
   generalize bz s.bd=bv at *
   generalize bz s.el=lv at *
   generalize (c.bK W).obj=o at *
   refine ay (sf:=eF) rfl rfl rfl ?_
   simp[-ax,-ah,eF,lE,en,e1,e2,b1,b2,l1,l2,wI,uq,cx,m1,m2,y1,lQ,cH,af,AV.view,AV.au,AV.ai,aA,aB,aI,az]
theorem YY (c:CK)(s:Sm)(hf:c.fe=0)(hw:Way c)(dZ:c.V.length+Sm.sz s<1000000000)(hk:s.k=3)(h:dK c.sg.has s.k s.es=true):ya c s:=by
 unfold ya
 have hz:=Sm.nK s
 have KL:=E.ff s.es
 have lE:=λaa=>jO aa c s (by omega)
 rw[h]at lE
 have en:=λwl aa st=>jX wl aa st
 have As:=λaa=>dQ aa c s.a []
 have lQ:=λaa=>cu aa c []
 rw[decide_eq_true hf]at lQ
 have mI:c.bK c.V=c:=rfl
 have cR:=Sm.aH s
 rw[hk]at cR
 rw[pM,h]
 rw[hk]at h ⊢
 simp only[if_true]
 rw[cR]at lE ⊢
 have e1:aG (aY s.es)=true:=bw
 have e2:(aY s.es).view=aY s.es:=bF
 have b1:aG (bz s.bd)=true:=bJ
 have b2:(bz s.bd).view=bz s.bd:=bM
 have l1:aG (bz s.el)=true:=bJ
 have l2:(bz s.el).view=bz s.el:=bM
 have cx:=kJ c s.es hf (by omega) (λe he=>gG c hf hw e (by have:=E.iW he;omega))
 have ur:An c.H c.V 3 s.es=nJ c.H c.V s.es:=mj (by decide)
 have H8:lD c.H 3 s.on s.od=some T0:=if_neg (by decide)
 rw[H8]
 simp only
 rw[ur]
 cases hv:nJ c.H c.V s.es with
 |error a=>
  rw[hv]at cx
  simp only at cx ⊢
  intro aa
  refine⟨c.V,Z9,qG,?_⟩
  rw[mI]
  obtain⟨v,dM,ev⟩:=cx 1
  have CX:=bD dM
  have MZ:=bC dM
  have jK:=λaa=>cu aa (c.fail a) []
  rw[decide_eq_false iX]at jK
  generalize aY s.es=kv at *
  generalize bz s.bd=bv at *
  generalize bz s.el=lv at *
  generalize (c.fail a).obj=o at *
  refine ay (sf:=eF) rfl rfl rfl ?_
  simp[-ax,-ah,eF,lE,en,e1,e2,b1,b2,l1,l2,ev,dM,jK,af,AV.view,AV.au,AV.ai,aB,aI]
 |ok ys=>
  rw[hv]at cx
  simp only at cx ⊢
  have nM:dK c.sg.has 3 ys=true:=mh hv h
  obtain⟨fv,⟨z,rfl,mC⟩,cH⟩:=oI 1 c 3 (cq 3 s.nm) (bN 3 s.on) (bO 3 s.od) ys s.a T0 hw.s nM
  simp only[mm]at mC cH
  have kN:(Sm.mk 3 (cq 3 s.nm) (bN 3 s.on) (bO 3 s.od) ys [] [] s.a 0).row=[.int .i64 3,.str s.nm,.str [],.int .i64 0,aY ys,.U,.U,.int .i64 s.a,.int .i64 0]:=by simp[Sm.row,Sm.rows,cq,bN,bO]
  rw[kN]at cH
  have m1:aG (cp 11 (E.rows ys))=true:=dm
  have m2:(cp 11 (E.rows ys)).view=aY ys:=rfl
  generalize cp 11 (E.rows ys)=mv at *
  have m3:=bD m1
  have m4:=bC m1
  have y1:aG (aY ys)=true:=bw
  have y2:(aY ys).view=aY ys:=bF
  generalize Fv:aY ys=yv at *
  generalize aY s.es=kv at *
  cases hT:jR c.H c.sg.res c.V 3 s.nm ys T0 with
  |none=>
   simp only
   intro aa
   refine⟨c.V,Z9,qG,?_⟩
   rw[mI]
   rw[hT]at cH
   simp only[Option.isSome_none,lu]at cH
   generalize bz s.bd=bv at *
   generalize bz s.el=lv at *
   generalize (c.fail s.a).obj=o at *
   refine ay (sf:=eF) rfl rfl rfl ?_
   simp[-ax,-ah,eF,lE,en,e1,e2,b1,b2,l1,l2,cx,m1,m2,lQ,cH,As,af,AV.view,AV.au,AV.ai,aB,aI]
  |some x=>
   obtain⟨r,W⟩:=x
   have mC:=mC r W hT
   subst mC
   rw[hT]at cH
   simp only[Option.isSome_some,lu]at cH
   have H9:({ c with V:=W }:CK)=c.bK W:=rfl
   rw[H9]at cH
   simp only[show ¬((3:Int)=5) from by decide,show ¬((3:Int)=6) from by decide,if_false]
   intro aa
   have wT:(Sm.mk 3 (cq 3 s.nm) (bN 3 s.on) (bO 3 s.od) ys [] [] s.a z).row=[.int .i64 3,.str s.nm,.str [],.int .i64 0,yv,.U,.U,.int .i64 s.a,.int .i64 z]:=by simp[Sm.row,Sm.rows,cq,bN,bO,Fv]
   show _=some (AV.agg (Sm.mk 3 (cq 3 s.nm) (bN 3 s.on) (bO 3 s.od) ys [] [] s.a z).row,_)
   rw[wT]
   generalize bz s.bd=bv at *
   generalize bz s.el=lv at *
   generalize (c.bK W).obj=o at *
   refine ay (sf:=eF) rfl rfl rfl ?_
   simp[-ax,-ah,eF,lE,en,e1,e2,b1,b2,l1,l2,cx,m1,m2,y1,lQ,cH,af,AV.view,AV.au,AV.ai,aB,aI]
theorem YZ (c:CK)(s:Sm)(hf:c.fe=0)(hw:Way c)(dZ:c.V.length+Sm.sz s<1000000000)(hk:s.k=4)(h:dK c.sg.has s.k s.es=true):ya c s:=by
 unfold ya
 have hz:=Sm.nK s
 have KL:=E.ff s.es
 have lE:=λaa=>jO aa c s (by omega)
 rw[h]at lE
 have en:=λwl aa st=>jX wl aa st
 have As:=λaa=>dQ aa c s.a []
 have lQ:=λaa=>cu aa c []
 rw[decide_eq_true hf]at lQ
 have mI:c.bK c.V=c:=rfl
 have cR:=Sm.aH s
 rw[hk]at cR
 rw[pM,h]
 rw[hk]at h ⊢
 simp only[if_true]
 rw[cR]at lE ⊢
 have e1:aG (aY s.es)=true:=bw
 have e2:(aY s.es).view=aY s.es:=bF
 have b1:aG (bz s.bd)=true:=bJ
 have b2:(bz s.bd).view=bz s.bd:=bM
 have l1:aG (bz s.el)=true:=bJ
 have l2:(bz s.el).view=bz s.el:=bM
 have cx:=kJ c s.es hf (by omega) (λe he=>gG c hf hw e (by have:=E.iW he;omega))
 have ur:An c.H c.V 4 s.es=nJ c.H c.V s.es:=mj (by decide)
 have H8:lD c.H 4 s.on s.od=some T0:=if_neg (by decide)
 rw[H8]
 simp only
 rw[ur]
 cases hv:nJ c.H c.V s.es with
 |error a=>
  rw[hv]at cx
  simp only at cx ⊢
  intro aa
  refine⟨c.V,Z9,qG,?_⟩
  rw[mI]
  obtain⟨v,dM,ev⟩:=cx 1
  have CX:=bD dM
  have MZ:=bC dM
  have jK:=λaa=>cu aa (c.fail a) []
  rw[decide_eq_false iX]at jK
  generalize aY s.es=kv at *
  generalize bz s.bd=bv at *
  generalize bz s.el=lv at *
  generalize (c.fail a).obj=o at *
  refine ay (sf:=eF) rfl rfl rfl ?_
  simp[-ax,-ah,eF,lE,en,e1,e2,b1,b2,l1,l2,ev,dM,jK,af,AV.view,AV.au,AV.ai,aB,aI]
 |ok ys=>
  rw[hv]at cx
  simp only at cx ⊢
  have nM:dK c.sg.has 4 ys=true:=mh hv h
  obtain⟨fv,⟨z,rfl,mC⟩,cH⟩:=oI 1 c 4 (cq 4 s.nm) (bN 4 s.on) (bO 4 s.od) ys s.a T0 hw.s nM
  simp only[mm]at mC cH
  have kN:(Sm.mk 4 (cq 4 s.nm) (bN 4 s.on) (bO 4 s.od) ys [] [] s.a 0).row=[.int .i64 4,.str [],.str [],.int .i64 0,aY ys,.U,.U,.int .i64 s.a,.int .i64 0]:=by simp[Sm.row,Sm.rows,cq,bN,bO]
  rw[kN]at cH
  have m1:aG (cp 11 (E.rows ys))=true:=dm
  have m2:(cp 11 (E.rows ys)).view=aY ys:=rfl
  generalize cp 11 (E.rows ys)=mv at *
  have m3:=bD m1
  have m4:=bC m1
  have y1:aG (aY ys)=true:=bw
  have y2:(aY ys).view=aY ys:=bF
  generalize Fv:aY ys=yv at *
  generalize aY s.es=kv at *
  cases hT:jR c.H c.sg.res c.V 4 s.nm ys T0 with
  |none=>
   simp only
   intro aa
   refine⟨c.V,Z9,qG,?_⟩
   rw[mI]
   rw[hT]at cH
   simp only[Option.isSome_none,lu]at cH
   generalize bz s.bd=bv at *
   generalize bz s.el=lv at *
   generalize (c.fail s.a).obj=o at *
   refine ay (sf:=eF) rfl rfl rfl ?_
   simp[-ax,-ah,eF,lE,en,e1,e2,b1,b2,l1,l2,cx,m1,m2,lQ,cH,As,af,AV.view,AV.au,AV.ai,aB,aI]
  |some x=>
   obtain⟨r,W⟩:=x
   have mC:=mC r W hT
   subst mC
   rw[hT]at cH
   simp only[Option.isSome_some,lu]at cH
   have H9:({ c with V:=W }:CK)=c.bK W:=rfl
   rw[H9]at cH
   simp only[show ¬((4:Int)=5) from by decide,show ¬((4:Int)=6) from by decide,if_false]
   intro aa
   have wT:(Sm.mk 4 (cq 4 s.nm) (bN 4 s.on) (bO 4 s.od) ys [] [] s.a z).row=[.int .i64 4,.str [],.str [],.int .i64 0,yv,.U,.U,.int .i64 s.a,.int .i64 z]:=by simp[Sm.row,Sm.rows,cq,bN,bO,Fv]
   show _=some (AV.agg (Sm.mk 4 (cq 4 s.nm) (bN 4 s.on) (bO 4 s.od) ys [] [] s.a z).row,_)
   rw[wT]
   generalize bz s.bd=bv at *
   generalize bz s.el=lv at *
   generalize (c.bK W).obj=o at *
   refine ay (sf:=eF) rfl rfl rfl ?_
   simp[-ax,-ah,eF,lE,en,e1,e2,b1,b2,l1,l2,cx,m1,m2,y1,lQ,cH,af,AV.view,AV.au,AV.ai,aB,aI]
end K9
namespace K9
open Ax Go aT V7 lP mV
theorem Y0 (c:CK)(s:Sm)(hf:c.fe=0)(hw:Way c)(dZ:c.V.length+Sm.sz s<1000000000)(hk:s.k=5)(h:dK c.sg.has s.k s.es=true)(Lg:∀d:CK,d.H=c.H->d.sg=c.sg->d.fe=0->Way d->d.V.length+Sm.dV s.bd<1000000000->JO d s.bd)(hbe:∀d:CK,d.H=c.H->d.sg=c.sg->d.fe=0->Way d->d.V.length+Sm.dV s.el<1000000000->JO d s.el):ya c s:=by
 unfold ya
 have hz:=Sm.nK s
 have KL:=E.ff s.es
 have lE:=λaa=>jO aa c s (by omega)
 rw[h]at lE
 have en:=λwl aa st=>jX wl aa st
 have As:=λaa=>dQ aa c s.a []
 have lQ:=λaa=>cu aa c []
 rw[decide_eq_true hf]at lQ
 have mI:c.bK c.V=c:=rfl
 have cR:=Sm.aH s
 rw[hk]at cR
 rw[pM,h]
 rw[hk]at h ⊢
 simp only[if_true]
 rw[cR]at lE ⊢
 have e1:aG (aY s.es)=true:=bw
 have e2:(aY s.es).view=aY s.es:=bF
 have b1:aG (bz s.bd)=true:=bJ
 have b2:(bz s.bd).view=bz s.bd:=bM
 have l1:aG (bz s.el)=true:=bJ
 have l2:(bz s.el).view=bz s.el:=bM
 have cx:=kJ c s.es hf (by omega) (λe he=>gG c hf hw e (by have:=E.iW he;omega))
 have ur:An c.H c.V 5 s.es=nJ c.H c.V s.es:=mj (by decide)
 have H8:lD c.H 5 s.on s.od=some T0:=if_neg (by decide)
 rw[H8]
 simp only
 rw[ur]
 cases hv:nJ c.H c.V s.es with
 |error a=>
  rw[hv]at cx
  simp only at cx ⊢
  intro aa
  refine⟨c.V,Z9,qG,?_⟩
  rw[mI]
  obtain⟨v,dM,ev⟩:=cx 1
  have CX:=bD dM
  have MZ:=bC dM
  have jK:=λaa=>cu aa (c.fail a) []
  rw[decide_eq_false iX]at jK
  generalize aY s.es=kv at *
  generalize bz s.bd=bv at *
  generalize bz s.el=lv at *
  generalize (c.fail a).obj=o at *
  refine ay (sf:=eF) rfl rfl rfl ?_
  simp[-ax,-ah,eF,lE,en,e1,e2,b1,b2,l1,l2,ev,dM,jK,af,AV.view,AV.au,AV.ai,aB,aI]
 |ok ys=>
  rw[hv]at cx
  simp only at cx ⊢
  have nM:dK c.sg.has 5 ys=true:=mh hv h
  obtain⟨fv,⟨z,rfl,mC⟩,cH⟩:=oI 1 c 5 (cq 5 s.nm) (bN 5 s.on) (bO 5 s.od) ys s.a T0 hw.s nM
  simp only[mm]at mC cH
  have kN:(Sm.mk 5 (cq 5 s.nm) (bN 5 s.on) (bO 5 s.od) ys [] [] s.a 0).row=[.int .i64 5,.str [],.str [],.int .i64 0,aY ys,.U,.U,.int .i64 s.a,.int .i64 0]:=by simp[Sm.row,Sm.rows,cq,bN,bO]
  rw[kN]at cH
  have m1:aG (cp 11 (E.rows ys))=true:=dm
  have m2:(cp 11 (E.rows ys)).view=aY ys:=rfl
  generalize cp 11 (E.rows ys)=mv at *
  have m3:=bD m1
  have m4:=bC m1
  have y1:aG (aY ys)=true:=bw
  have y2:(aY ys).view=aY ys:=bF
  generalize Fv:aY ys=yv at *
  generalize aY s.es=kv at *
  cases hT:jR c.H c.sg.res c.V 5 s.nm ys T0 with
  |none=>
   simp only
   intro aa
   refine⟨c.V,Z9,qG,?_⟩
   rw[mI]
   rw[hT]at cH
   simp only[Option.isSome_none,lu]at cH
   generalize bz s.bd=bv at *
   generalize bz s.el=lv at *
   generalize (c.fail s.a).obj=o at *
   refine ay (sf:=eF) rfl rfl rfl ?_
   simp[-ax,-ah,eF,lE,en,e1,e2,b1,b2,l1,l2,cx,m1,m2,lQ,cH,As,af,AV.view,AV.au,AV.ai,aB,aI]
  |some x=>
   obtain⟨r,W⟩:=x
   have mC:=mC r W hT
   subst mC
   rw[hT]at cH
   simp only[Option.isSome_some,lu]at cH
   have H9:({ c with V:=W }:CK)=c.bK W:=rfl
   rw[H9]at cH
   have hfw:=HC hT
   have Wv:W=c.V:=by
    rcases hfw with e|⟨e,_⟩
    ·exact e
    ·rcases e with e|e<;>cases e
   have hwW:Way (c.bK W):=by rw[Wv];exact hw
   have SI:=Sm.ff s.bd
   have hll:=Sm.ff s.el
   have hB:=Lg (c.bK W) rfl rfl hf hwW (by show W.length+_<_;rw[Wv];omega)
   unfold JO at hB
   have JU:kQ (c.bK W).H (c.bK W).sg.has (c.bK W).sg.res (c.bK W).V s.bd=kQ c.H c.sg.has c.sg.res W s.bd:=rfl
   rw[JU]at hB
   dsimp only
   cases hb:kQ c.H c.sg.has c.sg.res W s.bd with
   |error a=>
    rw[hb]at hB
    simp only at hB ⊢
    intro aa
    obtain⟨W',v,v1,ev⟩:=hB 1
    have xS:(c.bK W).bK W'=c.bK W':=rfl
    rw[xS]at ev
    have v3:=bD v1
    have v4:=bC v1
    have v5:aG v.view=true:=by rw[qW];exact v1
    have eB:=λaa=>D5 aa ((c.bK W').fail a) s.el iX (by omega)
    refine⟨W',[.int .i64 5,.str [],.str [],.int .i64 0,yv,v.view,.U,.int .i64 s.a,.int .i64 z],⟨_,_,_,_,_,_,_,_,_,rfl,y1,v5,rfl⟩,?_⟩
    generalize bz s.bd=bv at *
    generalize bz s.el=lv at *
    generalize (c.bK W).obj=o at *
    generalize ((c.bK W').fail a).obj=o2 at *
    refine ay (sf:=eF) rfl rfl rfl ?_
    simp[-ax,-ah,eF,lE,en,e1,e2,b1,b2,l1,l2,cx,m1,m2,y1,lQ,cH,ev,v1,v5,eB,af,AV.view,AV.au,AV.ai,aB,aI]
   |ok x=>
    obtain⟨bs,W1⟩:=x
    rw[hb]at hB
    simp only at hB ⊢
    have xS:(c.bK W).bK W1=c.bK W1:=rfl
    rw[xS]at hB
    have q1:aG (cp 9 (Sm.rows bs))=true:=dm
    have q2:(cp 9 (Sm.rows bs)).view=bz bs:=rfl
    have q3:=bD q1
    have q4:=bC q1
    have q5:aG (bz bs)=true:=bJ
    obtain⟨w1,w2⟩:=QE (by rw[Wv];exact hw.V) hb
    have aid:Way (c.bK W1):=Ft hw w1 (by rw[Wv]at w2;omega)
    have hL:=hbe (c.bK W1) rfl rfl hf aid (by show W1.length+_<_;rw[Wv]at w2;omega)
    unfold JO at hL
    have JU:kQ (c.bK W1).H (c.bK W1).sg.has (c.bK W1).sg.res (c.bK W1).V s.el=kQ c.H c.sg.has c.sg.res W1 s.el:=rfl
    rw[JU]at hL
    generalize cp 9 (Sm.rows bs)=mb at *
    cases hc:kQ c.H c.sg.has c.sg.res W1 s.el with
    |error a=>
     rw[hc]at hL
     simp only at hL ⊢
     intro aa
     obtain⟨W',v,v1,ev⟩:=hL 1
     have xS:(c.bK W1).bK W'=c.bK W':=rfl
     rw[xS]at ev
     have v3:=bD v1
     have v4:=bC v1
     have v5:aG v.view=true:=by rw[qW];exact v1
     refine⟨W',[.int .i64 5,.str [],.str [],.int .i64 0,yv,bz bs,v.view,.int .i64 s.a,.int .i64 z],⟨_,_,_,_,_,_,_,_,_,rfl,y1,q5,v5⟩,?_⟩
     generalize bz bs=bsv at *
     generalize bz s.bd=bv at *
     generalize bz s.el=lv at *
     generalize (c.bK W).obj=o at *
     generalize (c.bK W1).obj=o2 at *
     generalize ((c.bK W').fail a).obj=o3 at *
     refine ay (sf:=eF) rfl rfl rfl ?_
     simp[-ax,-ah,eF,lE,en,e1,e2,b1,b2,l1,l2,cx,m1,m2,y1,lQ,cH,hB,ev,v1,v5,q1,q2,q5,af,AV.view,AV.au,AV.ai,aB,aI]
    |ok x=>
     obtain⟨ls,W2⟩:=x
     rw[hc]at hL
     simp only at hL ⊢
     have xS:(c.bK W1).bK W2=c.bK W2:=rfl
     rw[xS]at hL
     have p1:aG (cp 9 (Sm.rows ls))=true:=dm
     have p2:(cp 9 (Sm.rows ls)).view=bz ls:=rfl
     have p3:=bD p1
     have p4:=bC p1
     have p5:aG (bz ls)=true:=bJ
     intro aa
     have wT:(Sm.mk 5 (cq 5 s.nm) (bN 5 s.on) (bO 5 s.od) ys bs ls s.a z).row=[.int .i64 5,.str [],.str [],.int .i64 0,yv,bz bs,bz ls,.int .i64 s.a,.int .i64 z]:=by simp[Sm.row,cq,bN,bO,Fv,bz]
     show _=some (AV.agg (Sm.mk 5 (cq 5 s.nm) (bN 5 s.on) (bO 5 s.od) ys bs ls s.a z).row,_)
     rw[wT]
     generalize cp 9 (Sm.rows ls)=ml at *
     generalize bz bs=bsv at *
     generalize bz ls=lsv at *
     generalize bz s.bd=bv at *
     generalize bz s.el=lv at *
     generalize (c.bK W).obj=o at *
     generalize (c.bK W1).obj=o2 at *
     generalize (c.bK W2).obj=o3 at *
     refine ay (sf:=eF) rfl rfl rfl ?_
     simp[-ax,-ah,eF,lE,en,e1,e2,b1,b2,l1,l2,cx,m1,m2,y1,lQ,cH,hB,hL,q1,q2,q5,p1,p2,p5,af,AV.view,AV.au,AV.ai,aB,aI]
theorem Y1 (c:CK)(s:Sm)(hf:c.fe=0)(hw:Way c)(dZ:c.V.length+Sm.sz s<1000000000)(hk:s.k=6)(h:dK c.sg.has s.k s.es=true)(Lg:∀d:CK,d.H=c.H->d.sg=c.sg->d.fe=0->Way d->d.V.length+Sm.dV s.bd<1000000000->JO d s.bd):ya c s:=by
 unfold ya
 have hz:=Sm.nK s
 have KL:=E.ff s.es
 have lE:=λaa=>jO aa c s (by omega)
 rw[h]at lE
 have en:=λwl aa st=>jX wl aa st
 have As:=λaa=>dQ aa c s.a []
 have lQ:=λaa=>cu aa c []
 rw[decide_eq_true hf]at lQ
 have mI:c.bK c.V=c:=rfl
 have cR:=Sm.aH s
 rw[hk]at cR
 rw[pM,h]
 rw[hk]at h ⊢
 simp only[if_true]
 rw[cR]at lE ⊢
 have e1:aG (aY s.es)=true:=bw
 have e2:(aY s.es).view=aY s.es:=bF
 have b1:aG (bz s.bd)=true:=bJ
 have b2:(bz s.bd).view=bz s.bd:=bM
 have l1:aG (bz s.el)=true:=bJ
 have l2:(bz s.el).view=bz s.el:=bM
 have cx:=kJ c s.es hf (by omega) (λe he=>gG c hf hw e (by have:=E.iW he;omega))
 have ur:An c.H c.V 6 s.es=nJ c.H c.V s.es:=mj (by decide)
 have H8:lD c.H 6 s.on s.od=some T0:=if_neg (by decide)
 rw[H8]
 simp only
 rw[ur]
 cases hv:nJ c.H c.V s.es with
 |error a=>
  rw[hv]at cx
  simp only at cx ⊢
  intro aa
  refine⟨c.V,Z9,qG,?_⟩
  rw[mI]
  obtain⟨v,dM,ev⟩:=cx 1
  have CX:=bD dM
  have MZ:=bC dM
  have jK:=λaa=>cu aa (c.fail a) []
  rw[decide_eq_false iX]at jK
  generalize aY s.es=kv at *
  generalize bz s.bd=bv at *
  generalize bz s.el=lv at *
  generalize (c.fail a).obj=o at *
  refine ay (sf:=eF) rfl rfl rfl ?_
  simp[-ax,-ah,eF,lE,en,e1,e2,b1,b2,l1,l2,ev,dM,jK,af,AV.view,AV.au,AV.ai,aB,aI]
 |ok ys=>
  rw[hv]at cx
  simp only at cx ⊢
  have nM:dK c.sg.has 6 ys=true:=mh hv h
  obtain⟨fv,⟨z,rfl,mC⟩,cH⟩:=oI 1 c 6 (cq 6 s.nm) (bN 6 s.on) (bO 6 s.od) ys s.a T0 hw.s nM
  simp only[mm]at mC cH
  have kN:(Sm.mk 6 (cq 6 s.nm) (bN 6 s.on) (bO 6 s.od) ys [] [] s.a 0).row=[.int .i64 6,.str [],.str [],.int .i64 0,aY ys,.U,.U,.int .i64 s.a,.int .i64 0]:=by simp[Sm.row,Sm.rows,cq,bN,bO]
  rw[kN]at cH
  have m1:aG (cp 11 (E.rows ys))=true:=dm
  have m2:(cp 11 (E.rows ys)).view=aY ys:=rfl
  generalize cp 11 (E.rows ys)=mv at *
  have m3:=bD m1
  have m4:=bC m1
  have y1:aG (aY ys)=true:=bw
  have y2:(aY ys).view=aY ys:=bF
  generalize Fv:aY ys=yv at *
  generalize aY s.es=kv at *
  cases hT:jR c.H c.sg.res c.V 6 s.nm ys T0 with
  |none=>
   simp only
   intro aa
   refine⟨c.V,Z9,qG,?_⟩
   rw[mI]
   rw[hT]at cH
   simp only[Option.isSome_none,lu]at cH
   generalize bz s.bd=bv at *
   generalize bz s.el=lv at *
   generalize (c.fail s.a).obj=o at *
   refine ay (sf:=eF) rfl rfl rfl ?_
   simp[-ax,-ah,eF,lE,en,e1,e2,b1,b2,l1,l2,cx,m1,m2,lQ,cH,As,af,AV.view,AV.au,AV.ai,aB,aI]
  |some x=>
   obtain⟨r,W⟩:=x
   have mC:=mC r W hT
   subst mC
   rw[hT]at cH
   simp only[Option.isSome_some,lu]at cH
   have H9:({ c with V:=W }:CK)=c.bK W:=rfl
   rw[H9]at cH
   have hfw:=HC hT
   have Wv:W=c.V:=by
    rcases hfw with e|⟨e,_⟩
    ·exact e
    ·rcases e with e|e<;>cases e
   have hwW:Way (c.bK W):=by rw[Wv];exact hw
   have SI:=Sm.ff s.bd
   have hll:=Sm.ff s.el
   have hB:=Lg (c.bK W) rfl rfl hf hwW (by show W.length+_<_;rw[Wv];omega)
   unfold JO at hB
   have JU:kQ (c.bK W).H (c.bK W).sg.has (c.bK W).sg.res (c.bK W).V s.bd=kQ c.H c.sg.has c.sg.res W s.bd:=rfl
   rw[JU]at hB
   simp only[show ¬((6:Int)=5) from by decide,if_false]
   cases hb:kQ c.H c.sg.has c.sg.res W s.bd with
   |error a=>
    rw[hb]at hB
    simp only at hB ⊢
    intro aa
    obtain⟨W',v,v1,ev⟩:=hB 1
    have xS:(c.bK W).bK W'=c.bK W':=rfl
    rw[xS]at ev
    have v3:=bD v1
    have v4:=bC v1
    have v5:aG v.view=true:=by rw[qW];exact v1
    have eB:=λaa=>D5 aa ((c.bK W').fail a) s.el iX (by omega)
    refine⟨W',[.int .i64 6,.str [],.str [],.int .i64 0,yv,v.view,.U,.int .i64 s.a,.int .i64 z],⟨_,_,_,_,_,_,_,_,_,rfl,y1,v5,rfl⟩,?_⟩
    generalize bz s.bd=bv at *
    generalize bz s.el=lv at *
    generalize (c.bK W).obj=o at *
    generalize ((c.bK W').fail a).obj=o2 at *
    refine ay (sf:=eF) rfl rfl rfl ?_
    simp[-ax,-ah,eF,lE,en,e1,e2,b1,b2,l1,l2,cx,m1,m2,y1,lQ,cH,ev,v1,v5,af,AV.view,AV.au,AV.ai,aB,aI]
   |ok x=>
    obtain⟨bs,W1⟩:=x
    rw[hb]at hB
    simp only at hB ⊢
    have xS:(c.bK W).bK W1=c.bK W1:=rfl
    rw[xS]at hB
    have q1:aG (cp 9 (Sm.rows bs))=true:=dm
    have q2:(cp 9 (Sm.rows bs)).view=bz bs:=rfl
    have q3:=bD q1
    have q4:=bC q1
    have q5:aG (bz bs)=true:=bJ
    intro aa
    have wT:(Sm.mk 6 (cq 6 s.nm) (bN 6 s.on) (bO 6 s.od) ys bs [] s.a z).row=[.int .i64 6,.str [],.str [],.int .i64 0,yv,bz bs,.U,.int .i64 s.a,.int .i64 z]:=by simp[Sm.row,Sm.rows,cq,bN,bO,Fv,bz]
    show _=some (AV.agg (Sm.mk 6 (cq 6 s.nm) (bN 6 s.on) (bO 6 s.od) ys bs [] s.a z).row,_)
    rw[wT]
    generalize cp 9 (Sm.rows bs)=mb at *
    generalize bz bs=bsv at *
    generalize bz s.bd=bv at *
    generalize bz s.el=lv at *
    generalize (c.bK W).obj=o at *
    generalize (c.bK W1).obj=o2 at *
    refine ay (sf:=eF) rfl rfl rfl ?_
    simp[-ax,-ah,eF,lE,en,e1,e2,b1,b2,l1,l2,cx,m1,m2,y1,lQ,cH,hB,q1,q2,q5,af,AV.view,AV.au,AV.ai,aB,aI]
theorem Y2 (c:CK)(s:Sm)(hf:c.fe=0)(hw:Way c)(dZ:c.V.length+Sm.sz s<1000000000)(hk:s.k=7)(h:dK c.sg.has s.k s.es=true):ya c s:=by
 unfold ya
 have hz:=Sm.nK s
 have KL:=E.ff s.es
 have lE:=λaa=>jO aa c s (by omega)
 rw[h]at lE
 have en:=λwl aa st=>jX wl aa st
 have As:=λaa=>dQ aa c s.a []
 have lQ:=λaa=>cu aa c []
 rw[decide_eq_true hf]at lQ
 have mI:c.bK c.V=c:=rfl
 have cR:=Sm.aH s
 rw[hk]at cR
 rw[pM,h]
 rw[hk]at h ⊢
 simp only[if_true]
 rw[cR]at lE ⊢
 have e1:aG (aY s.es)=true:=bw
 have e2:(aY s.es).view=aY s.es:=bF
 have b1:aG (bz s.bd)=true:=bJ
 have b2:(bz s.bd).view=bz s.bd:=bM
 have l1:aG (bz s.el)=true:=bJ
 have l2:(bz s.el).view=bz s.el:=bM
 have cx:=kJ c s.es hf (by omega) (λe he=>gG c hf hw e (by have:=E.iW he;omega))
 have ur:An c.H c.V 7 s.es=nJ c.H c.V s.es:=mj (by decide)
 have H8:lD c.H 7 s.on s.od=some T0:=if_neg (by decide)
 rw[H8]
 simp only
 rw[ur]
 cases hv:nJ c.H c.V s.es with
 |error a=>
  rw[hv]at cx
  simp only at cx ⊢
  intro aa
  refine⟨c.V,Z9,qG,?_⟩
  rw[mI]
  obtain⟨v,dM,ev⟩:=cx 1
  have CX:=bD dM
  have MZ:=bC dM
  have jK:=λaa=>cu aa (c.fail a) []
  rw[decide_eq_false iX]at jK
  generalize aY s.es=kv at *
  generalize bz s.bd=bv at *
  generalize bz s.el=lv at *
  generalize (c.fail a).obj=o at *
  refine ay (sf:=eF) rfl rfl rfl ?_
  simp[-ax,-ah,eF,lE,en,e1,e2,b1,b2,l1,l2,ev,dM,jK,af,AV.view,AV.au,AV.ai,aB,aI]
 |ok ys=>
  rw[hv]at cx
  simp only at cx ⊢
  have nM:dK c.sg.has 7 ys=true:=mh hv h
  obtain⟨fv,⟨z,rfl,mC⟩,cH⟩:=oI 1 c 7 (cq 7 s.nm) (bN 7 s.on) (bO 7 s.od) ys s.a T0 hw.s nM
  simp only[mm]at mC cH
  have kN:(Sm.mk 7 (cq 7 s.nm) (bN 7 s.on) (bO 7 s.od) ys [] [] s.a 0).row=[.int .i64 7,.str [],.str [],.int .i64 0,aY ys,.U,.U,.int .i64 s.a,.int .i64 0]:=by simp[Sm.row,Sm.rows,cq,bN,bO]
  rw[kN]at cH
  have m1:aG (cp 11 (E.rows ys))=true:=dm
  have m2:(cp 11 (E.rows ys)).view=aY ys:=rfl
  generalize cp 11 (E.rows ys)=mv at *
  have m3:=bD m1
  have m4:=bC m1
  have y1:aG (aY ys)=true:=bw
  have y2:(aY ys).view=aY ys:=bF
  generalize Fv:aY ys=yv at *
  generalize aY s.es=kv at *
  cases hT:jR c.H c.sg.res c.V 7 s.nm ys T0 with
  |none=>
   simp only
   intro aa
   refine⟨c.V,Z9,qG,?_⟩
   rw[mI]
   rw[hT]at cH
   simp only[Option.isSome_none,lu]at cH
   generalize bz s.bd=bv at *
   generalize bz s.el=lv at *
   generalize (c.fail s.a).obj=o at *
   refine ay (sf:=eF) rfl rfl rfl ?_
   simp[-ax,-ah,eF,lE,en,e1,e2,b1,b2,l1,l2,cx,m1,m2,lQ,cH,As,af,AV.view,AV.au,AV.ai,aB,aI]
  |some x=>
   obtain⟨r,W⟩:=x
   have mC:=mC r W hT
   subst mC
   rw[hT]at cH
   simp only[Option.isSome_some,lu]at cH
   have H9:({ c with V:=W }:CK)=c.bK W:=rfl
   rw[H9]at cH
   simp only[show ¬((7:Int)=5) from by decide,show ¬((7:Int)=6) from by decide,if_false]
   intro aa
   have wT:(Sm.mk 7 (cq 7 s.nm) (bN 7 s.on) (bO 7 s.od) ys [] [] s.a z).row=[.int .i64 7,.str [],.str [],.int .i64 0,yv,.U,.U,.int .i64 s.a,.int .i64 z]:=by simp[Sm.row,Sm.rows,cq,bN,bO,Fv]
   show _=some (AV.agg (Sm.mk 7 (cq 7 s.nm) (bN 7 s.on) (bO 7 s.od) ys [] [] s.a z).row,_)
   rw[wT]
   generalize bz s.bd=bv at *
   generalize bz s.el=lv at *
   generalize (c.bK W).obj=o at *
   refine ay (sf:=eF) rfl rfl rfl ?_
   simp[-ax,-ah,eF,lE,en,e1,e2,b1,b2,l1,l2,cx,m1,m2,y1,lQ,cH,af,AV.view,AV.au,AV.ai,aB,aI]
theorem Y3 (c:CK)(s:Sm)(hf:c.fe=0)(hw:Way c)(dZ:c.V.length+Sm.sz s<1000000000)(hk:s.k=8)(h:dK c.sg.has s.k s.es=true):ya c s:=by
 unfold ya
 have hz:=Sm.nK s
 have KL:=E.ff s.es
 have lE:=λaa=>jO aa c s (by omega)
 rw[h]at lE
 have en:=λwl aa st=>jX wl aa st
 have As:=λaa=>dQ aa c s.a []
 have lQ:=λaa=>cu aa c []
 rw[decide_eq_true hf]at lQ
 have mI:c.bK c.V=c:=rfl
 have cR:=Sm.aH s
 rw[hk]at cR
 rw[pM,h]
 rw[hk]at h ⊢
 simp only[if_true]
 rw[cR]at lE ⊢
 have e1:aG (aY s.es)=true:=bw
 have e2:(aY s.es).view=aY s.es:=bF
 have b1:aG (bz s.bd)=true:=bJ
 have b2:(bz s.bd).view=bz s.bd:=bM
 have l1:aG (bz s.el)=true:=bJ
 have l2:(bz s.el).view=bz s.el:=bM
 have cx:=kJ c s.es hf (by omega) (λe he=>gG c hf hw e (by have:=E.iW he;omega))
 have ur:An c.H c.V 8 s.es=nJ c.H c.V s.es:=mj (by decide)
 have H8:lD c.H 8 s.on s.od=some T0:=if_neg (by decide)
 rw[H8]
 simp only
 rw[ur]
 cases hv:nJ c.H c.V s.es with
 |error a=>
  rw[hv]at cx
  simp only at cx ⊢
  intro aa
  refine⟨c.V,Z9,qG,?_⟩
  rw[mI]
  obtain⟨v,dM,ev⟩:=cx 1
  have CX:=bD dM
  have MZ:=bC dM
  have jK:=λaa=>cu aa (c.fail a) []
  rw[decide_eq_false iX]at jK
  generalize aY s.es=kv at *
  generalize bz s.bd=bv at *
  generalize bz s.el=lv at *
  generalize (c.fail a).obj=o at *
  refine ay (sf:=eF) rfl rfl rfl ?_
  simp[-ax,-ah,eF,lE,en,e1,e2,b1,b2,l1,l2,ev,dM,jK,af,AV.view,AV.au,AV.ai,aB,aI]
 |ok ys=>
  rw[hv]at cx
  simp only at cx ⊢
  have nM:dK c.sg.has 8 ys=true:=mh hv h
  obtain⟨fv,⟨z,rfl,mC⟩,cH⟩:=oI 1 c 8 (cq 8 s.nm) (bN 8 s.on) (bO 8 s.od) ys s.a T0 hw.s nM
  simp only[mm]at mC cH
  have kN:(Sm.mk 8 (cq 8 s.nm) (bN 8 s.on) (bO 8 s.od) ys [] [] s.a 0).row=[.int .i64 8,.str [],.str [],.int .i64 0,aY ys,.U,.U,.int .i64 s.a,.int .i64 0]:=by simp[Sm.row,Sm.rows,cq,bN,bO]
  rw[kN]at cH
  have m1:aG (cp 11 (E.rows ys))=true:=dm
  have m2:(cp 11 (E.rows ys)).view=aY ys:=rfl
  generalize cp 11 (E.rows ys)=mv at *
  have m3:=bD m1
  have m4:=bC m1
  have y1:aG (aY ys)=true:=bw
  have y2:(aY ys).view=aY ys:=bF
  generalize Fv:aY ys=yv at *
  generalize aY s.es=kv at *
  cases hT:jR c.H c.sg.res c.V 8 s.nm ys T0 with
  |none=>
   simp only
   intro aa
   refine⟨c.V,Z9,qG,?_⟩
   rw[mI]
   rw[hT]at cH
   simp only[Option.isSome_none,lu]at cH
   generalize bz s.bd=bv at *
   generalize bz s.el=lv at *
   generalize (c.fail s.a).obj=o at *
   refine ay (sf:=eF) rfl rfl rfl ?_
   simp[-ax,-ah,eF,lE,en,e1,e2,b1,b2,l1,l2,cx,m1,m2,lQ,cH,As,af,AV.view,AV.au,AV.ai,aB,aI]
  |some x=>
   obtain⟨r,W⟩:=x
   have mC:=mC r W hT
   subst mC
   rw[hT]at cH
   simp only[Option.isSome_some,lu]at cH
   have H9:({ c with V:=W }:CK)=c.bK W:=rfl
   rw[H9]at cH
   simp only[show ¬((8:Int)=5) from by decide,show ¬((8:Int)=6) from by decide,if_false]
   intro aa
   have wT:(Sm.mk 8 (cq 8 s.nm) (bN 8 s.on) (bO 8 s.od) ys [] [] s.a z).row=[.int .i64 8,.str [],.str [],.int .i64 0,yv,.U,.U,.int .i64 s.a,.int .i64 z]:=by simp[Sm.row,Sm.rows,cq,bN,bO,Fv]
   show _=some (AV.agg (Sm.mk 8 (cq 8 s.nm) (bN 8 s.on) (bO 8 s.od) ys [] [] s.a z).row,_)
   rw[wT]
   generalize bz s.bd=bv at *
   generalize bz s.el=lv at *
   generalize (c.bK W).obj=o at *
   refine ay (sf:=eF) rfl rfl rfl ?_
   simp[-ax,-ah,eF,lE,en,e1,e2,b1,b2,l1,l2,cx,m1,m2,y1,lQ,cH,af,AV.view,AV.au,AV.ai,aB,aI]
theorem Y4 (c:CK)(s:Sm)(hf:c.fe=0)(hw:Way c)(dZ:c.V.length+Sm.sz s<1000000000)(hk:s.k=9)(h:dK c.sg.has s.k s.es=true):ya c s:=by
 unfold ya
 have hz:=Sm.nK s
 have KL:=E.ff s.es
 have lE:=λaa=>jO aa c s (by omega)
 rw[h]at lE
 have en:=λwl aa st=>jX wl aa st
 have As:=λaa=>dQ aa c s.a []
 have lQ:=λaa=>cu aa c []
 rw[decide_eq_true hf]at lQ
 have mI:c.bK c.V=c:=rfl
 have cR:=Sm.aH s
 rw[hk]at cR
 rw[pM,h]
 rw[hk]at h ⊢
 simp only[if_true]
 rw[cR]at lE ⊢
 have e1:aG (aY s.es)=true:=bw
 have e2:(aY s.es).view=aY s.es:=bF
 have b1:aG (bz s.bd)=true:=bJ
 have b2:(bz s.bd).view=bz s.bd:=bM
 have l1:aG (bz s.el)=true:=bJ
 have l2:(bz s.el).view=bz s.el:=bM
 obtain⟨e,qK,hek⟩:=JK h
 have hze:cD 11 (aY s.es)=true:=qF
 have fo:aP (aY s.es)=E.rows s.es:=aO
 have hX:=gG c hf hw e (by have:E.sz e<=E.dV s.es:=E.iW (by rw[qK];exact List.mem_cons_self);omega)
 unfold OkX at hX
 have ur:An c.H c.V 9 s.es=match uf c.H c.V e with|.error x=>.error x|.ok y=>.ok [y]:=by rw[qK];exact K6
 rw[show E.rows s.es=E.rows [e] from by rw[qK]]at fo
 simp only[E.rows,E.aH]at fo
 have H8:lD c.H 9 s.on s.od=some T0:=if_neg (by decide)
 rw[H8]
 simp only
 rw[ur]
 cases hv:uf c.H c.V e with
 |error a=>
  rw[hv]at hX
  simp only at hX ⊢
  intro aa
  refine⟨c.V,Z9,qG,?_⟩
  rw[mI]
  obtain⟨y,ev⟩:=hX 1
  have jK:=λaa=>cu aa (c.fail a) []
  rw[decide_eq_false iX]at jK
  rw[E.aH e,E.aH y]at ev
  generalize aY s.es=kv at *
  generalize bz s.bd=bv at *
  generalize bz s.el=lv at *
  generalize (c.fail a).obj=o at *
  refine ay (sf:=eF) rfl rfl rfl ?_
  simp[-ax,-ah,eF,lE,en,e1,e2,b1,b2,l1,l2,hze,fo,bL,ev,jK,af,AV.view,AV.au,AV.ai,aB,aI]
 |ok y=>
  rw[hv]at hX
  simp only at hX ⊢
  have nM:dK c.sg.has 9 [y]=true:=by simp[dK,K5 hv,hek]
  obtain⟨fv,⟨z,rfl,mC⟩,cH⟩:=oI 1 c 9 (cq 9 s.nm) (bN 9 s.on) (bO 9 s.od) [y] s.a T0 hw.s nM
  simp only[mm]at mC cH
  have kN:(Sm.mk 9 (cq 9 s.nm) (bN 9 s.on) (bO 9 s.od) [y] [] [] s.a 0).row=[.int .i64 9,.str [],.str [],.int .i64 0,aY [y],.U,.U,.int .i64 s.a,.int .i64 0]:=by simp[Sm.row,Sm.rows,cq,bN,bO]
  rw[kN]at cH
  have Fv:aY [y]=.cU 11 [y.row]:=by simp[aY,E.rows]
  rw[Fv]at cH
  rw[E.aH y]at cH hX Fv
  rw[E.aH e]at hX
  generalize aY s.es=kv at *
  cases hT:jR c.H c.sg.res c.V 9 s.nm [y] T0 with
  |none=>
   simp only
   intro aa
   refine⟨c.V,Z9,qG,?_⟩
   rw[mI]
   rw[hT]at cH
   simp only[Option.isSome_none,lu]at cH
   generalize bz s.bd=bv at *
   generalize bz s.el=lv at *
   generalize (c.fail s.a).obj=o at *
   refine ay (sf:=eF) rfl rfl rfl ?_
   simp[-ax,-ah,eF,lE,en,e1,e2,b1,b2,l1,l2,hze,fo,bL,hX,lQ,cH,As,af,AV.view,AV.au,AV.ai,aB,aI]
  |some x=>
   obtain⟨r,W⟩:=x
   have mC:=mC r W hT
   subst mC
   rw[hT]at cH
   simp only[Option.isSome_some,lu]at cH
   have H9:({ c with V:=W }:CK)=c.bK W:=rfl
   rw[H9]at cH
   simp only[show ¬((9:Int)=5) from by decide,show ¬((9:Int)=6) from by decide,if_false]
   intro aa
   have wT:(Sm.mk 9 (cq 9 s.nm) (bN 9 s.on) (bO 9 s.od) [y] [] [] s.a z).row=[.int .i64 9,.str [],.str [],.int .i64 0,aY [y],.U,.U,.int .i64 s.a,.int .i64 z]:=by simp[Sm.row,Sm.rows,cq,bN,bO]
   show _=some (AV.agg (Sm.mk 9 (cq 9 s.nm) (bN 9 s.on) (bO 9 s.od) [y] [] [] s.a z).row,_)
   rw[wT]
   generalize bz s.bd=bv at *
   generalize bz s.el=lv at *
   generalize (c.bK W).obj=o at *
   refine ay (sf:=eF) rfl rfl rfl ?_
   simp[-ax,-ah,eF,lE,en,e1,e2,b1,b2,l1,l2,hze,fo,bL,hX,Fv,lQ,cH,af,AV.view,AV.au,AV.ai,aB,aI]
end K9
namespace K9
open Ax Go aT V7 lP mV
theorem U1 {has:Bool}{k:Int}{es:List E}(h:dK has k es=true):k=1\/k=2\/k=3\/k=4\/k=5\/k=6\/k=7\/k=8\/k=9:=by
 by_cases h1:k=1
 ·exact .inl h1
 by_cases h4:k=4
 ·omega
 by_cases h7:k=7
 ·omega
 by_cases h9:k=9
 ·omega
 unfold dK at h
 rw[if_neg h1,if_neg h4,if_neg h7,if_neg h9]at h
 split at h
 ·omega
 ·cases h
theorem Ia {H:Hd}{has:Bool}{res:T3}{V:List Vd}{l:List Sm}{k:Nat}(h:k<l.length):kQ H has res V (l.drop k)=match wF H has res V l[k] with
  |.error x=>.error x
  |.ok (y,W)=>match kQ H has res W (l.drop (k+1)) with
   |.error x=>.error x
   |.ok (ys,X)=>.ok (y::ys,X):=by
 rw[List.drop_eq_getElem_cons h]
 conv=>lhs;unfold kQ
 rfl
def preB (ys:List Sm)(r:Except Int (List Sm×List Vd)):Except Int (List Sm×List Vd):=match r with
 |.error x=>.error x
 |.ok (zs,X)=>.ok (ys++zs,X)
theorem M5 {H:Hd}{has:Bool}{res:T3}{V:List Vd}{l:List Sm}{ys:List Sm}{k:Nat}(h:k<l.length):preB ys (kQ H has res V (l.drop k))=match wF H has res V l[k] with
  |.error x=>.error x
  |.ok (y,W)=>preB (ys++[y]) (kQ H has res W (l.drop (k+1))):=by
 rw[Ia h]
 split
 ·rfl
 ·split
  ·rename_i h1;rw[h1];rfl
  ·rename_i h1;rw[h1];simp[preB]
theorem Cj {l:List Sm}{k:Nat}(h:k<l.length):(Sm.rows l)[k]?=some l[k].row:=by simp[gr,h]
theorem xT {l:List Sm}{k:Nat}(h:k<l.length)(h2:k<(Sm.rows l).length):(Sm.rows l)[k]=l[k].row:=by simp[gr]
theorem Ib:∀(l:List Sm)(k:Nat)(h:k<l.length),Sm.dV (l.drop k)=Sm.sz l[k]+Sm.dV (l.drop (k+1)):=by
 intro l k h
 rw[List.drop_eq_getElem_cons h];rfl
theorem iO (c:CK)(l:List Sm)(hf:c.fe=0)(hw:Way c)(dZ:c.V.length+Sm.dV l<1000000000)
  (hl:∀s∈l,∀d:CK,d.H=c.H->d.sg=c.sg->d.fe=0->Way d->d.V.length+Sm.sz s<1000000000->ya d s):JO c l:=by
 unfold JO
 have hz:cD 9 (bz l)=true:=Fo
 have dM:aG (bz l)=true:=bJ
 have iq:(bz l).view=bz l:=bM
 have fo:aP (bz l)=Sm.rows l:=aO
 have hlen:=Sm.ff l
 have oz:∀(ys:List Sm) (y:Sm),ys.length<1000000000->vv 9 136 (cp 9 (Sm.rows ys)) [y.row]=some (cp 9 (Sm.rows (ys++[y]))):=λys y h=>by
  rw[fL (by simp[fits,Sm.aH]) (by simp[room];omega)]
  simp[gr]
 have C9:∀(ys:List (List AV)) (y:List AV),y.length=9->ys.length<1000000000->vv 9 136 (cp 9 ys) [y]=some (cp 9 (ys++[y])):=λys y h1 h=>by
  rw[fL (by simp[fits,h1]) (by simp[room];omega)]
 cases hR:kQ c.H c.sg.has c.sg.res c.V l with
 |ok x=>
  obtain⟨zs,X⟩:=x
  intro aa
  refine ay (sf:=Wf) rfl rfl rfl ?_
  generalize bz l=lv at *
  simp[-ax,-ah,Wf,dM,iq,fo]
  refine bu BM.eq_1 (λx:Nat×List Sm×List Vd×List AV=>⟨[(0,.val (.ptr 0 0 0 0)),(5,.val (cp 9 (Sm.rows x.2.1))),(8,.val lv),(9,.val (.int .i64 l.length)),(10,.val (.int .i64 x.1))],[x.2.2.2],[(c.bK x.2.2.1).obj]⟩)
   (λx=>x.1<=l.length/\x.2.1.length=x.1/\preB x.2.1 (kQ c.H c.sg.has c.sg.res x.2.2.1 (l.drop x.1))=.ok (zs,X)/\Way (c.bK x.2.2.1)/\x.2.2.1.length+Sm.dV (l.drop x.1)<1000000000) (λx=>l.length-x.1) (0,[],c.V,[]) rfl ⟨by simp,rfl,by simp[preB,hR],hw,by simpa using dZ⟩ ?_
  rintro⟨k,ys,V,b⟩ ⟨hk,hy,hp,hW,kO⟩ ih
  simp only at hk hy hp hW kO ih
  by_cases aV:k<l.length
  ·have vA:IntKind.i64.wrap ((k:Int)+1)=((k+1:Nat):Int):=by rw[wrap64]<;>omega
   rw[Ib l k aV]at kO
   have hv:=hl l[k] (List.getElem_mem aV) (c.bK V) rfl rfl hf hW (by show V.length+_<_;omega)
   unfold ya at hv
   have JU:wF (c.bK V).H (c.bK V).sg.has (c.bK V).sg.res (c.bK V).V l[k]=wF c.H c.sg.has c.sg.res V l[k]:=rfl
   rw[JU]at hv
   rw[M5 aV]at hp
   have gE:=Cj aV
   have tn:=λh2=>xT aV h2
   have lQ:=λaa=>cu aa (c.bK V) []
   rw[decide_eq_true (show (c.bK V).fe=0 from hf)]at lQ
   cases hx:wF c.H c.sg.has c.sg.res V l[k] with
   |error a=>rw[hx]at hp;cases hp
   |ok x=>
    obtain⟨y,W⟩:=x
    rw[hx]at hp hv
    simp only at hp hv
    obtain⟨w1,w2⟩:=JJ l[k] V y W hW.V hx
    have ap:=oz ys y (by omega)
    have fD:=λb=>ih (k+1,ys++[y],W,b) ⟨by simp only;omega,by simp[hy],hp,Ft (W:=W) hw w1 (by omega),by show W.length+Sm.dV (l.drop (k+1))<1000000000;omega⟩ (by simp only;omega)
    simp only at fD
    have xS:(c.bK V).bK W=c.bK W:=rfl
    rw[xS]at hv
    generalize (c.bK V).obj=o1 at *
    generalize (c.bK W).obj=o2 at *
    generalize cp 9 (Sm.rows (ys++[y]))=R at *
    rw[Sm.aH l[k]]at hv gE
    simp only[Sm.aH l[k]]at tn
    rw[Sm.aH y]at hv ap
    generalize l[k]=x at *
    simp[-ax,-ah,bL,aV,vA,hz,fo,tn,lQ,hv,ap,af,AV.view]
    exact fD _
  ·have de:k=l.length:=by omega
   have hh:ys=zs/\V=X:=by
    rw[de,List.drop_length]at hp
    simpa [kQ,preB] using hp
   obtain⟨h1,h2⟩:=hh
   subst h1 h2
   simp[-ax,-ah,aV]
 |error a=>
  intro aa
  obtain⟨v,bP,h1,W,h2,h3⟩:∃v bP,(aU S).call 0 aa 83 [.ptr 0 0 0 0,bz l] [c.obj]=some (v,bP)/\∃W,aG v=true/\bP=[((c.bK W).fail a).obj]:=by
   refine Ar (sf:=Wf) rfl rfl rfl ?_
   generalize bz l=lv at *
   simp[-ax,-ah,Wf,dM,iq,fo]
   refine bu BM.eq_1 (λx:Nat×List (List AV)×List Vd×CK×List AV=>⟨[(0,.val (.ptr 0 0 0 0)),(5,.val (cp 9 x.2.1)),(8,.val lv),(9,.val (.int .i64 l.length)),(10,.val (.int .i64 x.1))],[x.2.2.2.2],[x.2.2.2.1.obj]⟩)
    (λx=>x.1<=l.length/\x.2.1.length=x.1/\(x.2.2.2.1=c.bK x.2.2.1/\kQ c.H c.sg.has c.sg.res x.2.2.1 (l.drop x.1)=.error a/\Way (c.bK x.2.2.1)/\x.2.2.1.length+Sm.dV (l.drop x.1)<1000000000\/x.2.2.2.1=(c.bK x.2.2.1).fail a))
    (λx=>l.length-x.1) (0,[],c.V,c,[]) rfl ⟨by simp,rfl,.inl ⟨rfl,by simpa using hR,hw,by simpa using dZ⟩⟩ ?_
   rintro⟨k,ys,V,d,b⟩ ⟨hk,hy,hp⟩ ih
   simp only at hk hy hp ih
   by_cases aV:k<l.length
   ·have vA:IntKind.i64.wrap ((k:Int)+1)=((k+1:Nat):Int):=by rw[wrap64]<;>omega
    have gE:=Cj aV
    have tn:=λh2=>xT aV h2
    rcases hp with⟨hd,hp,hW,kO⟩|hd
    ·subst hd
     rw[Ib l k aV]at kO
     have hv:=hl l[k] (List.getElem_mem aV) (c.bK V) rfl rfl hf hW (by show V.length+_<_;omega)
     unfold ya at hv
     have JU:wF (c.bK V).H (c.bK V).sg.has (c.bK V).sg.res (c.bK V).V l[k]=wF c.H c.sg.has c.sg.res V l[k]:=rfl
     rw[JU]at hv
     rw[Ia aV]at hp
     have lQ:=λaa=>cu aa (c.bK V) []
     rw[decide_eq_true (show (c.bK V).fe=0 from hf)]at lQ
     cases hx:wF c.H c.sg.has c.sg.res V l[k] with
     |error a'=>
      rw[hx]at hp hv
      simp only at hp hv
      cases hp
      obtain⟨W,row,⟨rk,rnm,ron,rod,res,rbd,rel,ra,Y5,rfl,q1,q2,q3⟩,hv⟩:=hv 1
      have xS:(c.bK V).bK W=c.bK W:=rfl
      rw[xS]at hv
      have ap:=C9 ys [.int .i64 rk,.str rnm,.str ron,.int .i64 rod,res.view,rbd.view,rel.view,.int .i64 ra,.int .i64 Y5] rfl (by omega)
      have fD:=λb=>ih (k+1,ys++[[.int .i64 rk,.str rnm,.str ron,.int .i64 rod,res.view,rbd.view,rel.view,.int .i64 ra,.int .i64 Y5]],W,(c.bK W).fail a,b) ⟨by simp only;omega,by simp[hy],.inr rfl⟩ (by simp only;omega)
      simp only at fD
      generalize (c.bK V).obj=o1 at *
      generalize ((c.bK W).fail a).obj=o2 at *
      generalize cp 9 (ys++[[.int .i64 rk,.str rnm,.str ron,.int .i64 rod,res.view,rbd.view,rel.view,.int .i64 ra,.int .i64 Y5]])=R at *
      rw[Sm.aH l[k]]at hv gE
      simp only[Sm.aH l[k]]at tn
      generalize l[k]=x at *
      simp[-ax,-ah,bL,aV,vA,hz,fo,tn,lQ,hv,ap,q1,q2,q3,af,AV.view]
      exact fD _
     |ok x=>
      obtain⟨y,W⟩:=x
      rw[hx]at hp hv
      simp only at hp hv
      obtain⟨w1,w2⟩:=JJ l[k] V y W hW.V hx
      have hp':kQ c.H c.sg.has c.sg.res W (l.drop (k+1))=.error a:=by
       split at hp
       ·rename_i h;cases hp;exact h
       ·cases hp
      have ap:=C9 ys y.row (by rw[Sm.aH];rfl) (by omega)
      have fD:=λb=>ih (k+1,ys++[y.row],W,c.bK W,b) ⟨by simp only;omega,by simp[hy],.inl ⟨rfl,hp',Ft (W:=W) hw w1 (by omega),by show W.length+Sm.dV (l.drop (k+1))<1000000000;omega⟩⟩ (by simp only;omega)
      simp only at fD
      have xS:(c.bK V).bK W=c.bK W:=rfl
      rw[xS]at hv
      generalize (c.bK V).obj=o1 at *
      generalize (c.bK W).obj=o2 at *
      generalize cp 9 (ys++[y.row])=R at *
      rw[Sm.aH l[k]]at hv gE
      simp only[Sm.aH l[k]]at tn
      rw[Sm.aH y]at hv ap
      generalize l[k]=x at *
      simp[-ax,-ah,bL,aV,vA,hz,fo,tn,lQ,hv,ap,af,AV.view]
      exact fD _
    ·subst hd
     have jK:=λaa=>cu aa ((c.bK V).fail a) []
     rw[decide_eq_false iX]at jK
     simp only[Sm.aH l[k]]at tn
     rw[Sm.aH l[k]]at gE
     have hex:∃W,((c.bK V).fail a).obj=((c.bK W).fail a).obj:=⟨V,rfl⟩
     generalize ((c.bK V).fail a).obj=o2 at *
     generalize l[k]=x at *
     simp[-ax,-ah,bL,aV,hz,fo,tn,jK,hex,af,AV.view]
   ·have de:k=l.length:=by omega
    rcases hp with⟨hd,hp,_⟩|hd
    ·rw[de,List.drop_length]at hp
     simp[kQ]at hp
    ·subst hd
     have hex:∃W,((c.bK V).fail a).obj=((c.bK W).fail a).obj:=⟨V,rfl⟩
     generalize ((c.bK V).fail a).obj=o2 at *
     simp[-ax,-ah,aV,hex]
  rw[h3]at h1
  exact⟨W,v,h2,h1⟩
theorem sJ (s:Sm):∀c:CK,c.fe=0->Way c->c.V.length+Sm.sz s<1000000000->ya c s:=by
 induction s using Sm.ind with
 |_ s sW uh=>
  intro c hf hw dZ
  have hz:=Sm.nK s
  have KL:=E.ff s.es
  cases h:dK c.sg.has s.k s.es with
  |false=>exact YU c s (by omega) h
  |true=>
   have Lg:∀d:CK,d.H=c.H->d.sg=c.sg->d.fe=0->Way d->d.V.length+Sm.dV s.bd<1000000000->JO d s.bd:=λd _ _ h1 h2 h3=>
    iO d s.bd h1 h2 h3 λx hx e _ _ g1 g2 g3=>sW x hx e g1 g2 g3
   have hbe:∀d:CK,d.H=c.H->d.sg=c.sg->d.fe=0->Way d->d.V.length+Sm.dV s.el<1000000000->JO d s.el:=λd _ _ h1 h2 h3=>
    iO d s.el h1 h2 h3 λx hx e _ _ g1 g2 g3=>uh x hx e g1 g2 g3
   rcases U1 h with k|k|k|k|k|k|k|k|k
   ·exact YW c s hf hw dZ k h
   ·exact YX c s hf hw dZ k h
   ·exact YY c s hf hw dZ k h
   ·exact YZ c s hf hw dZ k h
   ·exact Y0 c s hf hw dZ k h Lg hbe
   ·exact Y1 c s hf hw dZ k h Lg
   ·exact Y2 c s hf hw dZ k h
   ·exact Y3 c s hf hw dZ k h
   ·exact Y4 c s hf hw dZ k h
theorem Fk (c:CK)(l:List Sm)(hf:c.fe=0)(hw:Way c)(dZ:c.V.length+Sm.dV l<1000000000):JO c l:=
 iO c l hf hw dZ λs _ d _ _ h1 h2 h3=>sJ s d h1 h2 h3
end K9
namespace K9
open Ax Go aT V7 lP mV
theorem Ck (wl aa:Nat)(l:List Vd)(st:an)(hn:l.length<1000000000):(aU S).call wl aa 82 [bT l] st=some (cp 4 (l.map Vd.row),st):=by
 refine bf (sf:=s82) rfl rfl (by simp[AV.ai]) rfl (by simp) ?_
 cases l with
 |nil=>simp[s82,bT,nk,Ef]
 |cons v l=>
  have hv:bT (v::l)=.cU 4 ((v::l).map Vd.row):=rfl
  have oz:=fL (sz:=4) (bytes:=40) (r:=[]) (new:=(v::l).map Vd.row) (by simp[fits,Vd.row]) (by simp[room]at hn ⊢;omega)
  rw[hv]
  simp only[List.nil_append]at oz
  have hm:cp 4 ((v::l).map Vd.row)=.own 4 ((v::l).map Vd.row):=rfl
  rw[hm]at oz ⊢
  have yl:vv 4 40 .emp ((v::l).map Vd.row)=some (.own 4 ((v::l).map Vd.row)):=by
   simp[vv,fits,Vd.row,room]at hn ⊢;omega
  generalize (v::l).map Vd.row=R at *
  simp[s82,yl,Ef]
def CK.lM (c:CK)(g:Sg):CK:={ c with sg:=g,V:=g.ps }
theorem Y6 {c:CK}{a:Int}:(c.fail a).V=c.V:=by unfold CK.fail;split<;>rfl
theorem U3 (c:CK)(f:Fc)(g:Sg)(hf:c.fe=0)(hw:Way (c.lM g))(dZ:g.ps.length+Sm.dV f.body<1000000000):match kQ c.H g.has g.res g.ps f.body with
  |.ok (ys,W)=>∀aa,(aU S).call 0 aa 42 [.ptr 0 0 0 0,.agg f.row,.agg g.row] [c.obj]=some (.agg [bT W,cp 9 (Sm.rows ys),.int .i64 f.a],[((c.lM g).bK W).obj])
  |.error a=>∀aa,∃W v,aG v=true/\(aU S).call 0 aa 42 [.ptr 0 0 0 0,.agg f.row,.agg g.row] [c.obj]=some (.agg [bT W,v,.int .i64 f.a],[(((c.lM g).bK W).fail a).obj]):=by
 have hB:=Fk (c.lM g) f.body hf hw dZ
 unfold JO at hB
 have JU:kQ (c.lM g).H (c.lM g).sg.has (c.lM g).sg.res (c.lM g).V f.body=kQ c.H g.has g.res g.ps f.body:=rfl
 rw[JU]at hB
 have hV:=hw.s.V
 have ec:=λwl aa st=>Ck wl aa g.ps st (by exact hV)
 have h1:∀aa bx,aL 0 aa (.store 6) [.val (.ptr 0 0 0 5),.val (.agg g.row)] [c.obj] bx=some (.none,[({ c with sg:=g }:CK).obj],bx):=λaa bx=>by
  simp[CK.obj,Sg.row,bp,AV.ai,AV.au,af]
 have h2:∀aa bx,aL 0 aa (.store 1) [.val (.ptr 0 0 0 11),.val (cp 4 (g.ps.map Vd.row))] [({ c with sg:=g }:CK).obj] bx=some (.none,[(c.lM g).obj],bx):=λaa bx=>by
  simp[CK.obj,CK.lM,bp,AV.ai,af]
 generalize ({ c with sg:=g }:CK).obj=o1 at *
 have g1:aG (cp 4 (g.ps.map Vd.row))=true:=dm
 generalize cp 4 (g.ps.map Vd.row)=mg at *
 have g3:=bD g1
 have g4:=bC g1
 have p1:aG (bT g.ps)=true:=jl
 have p2:(bT g.ps).view=bT g.ps:=jN
 have q1:aG (bz f.body)=true:=bJ
 have q2:(bz f.body).view=bz f.body:=bM
 simp only[Sg.row]at h1 ⊢
 simp only[Fc.row]
 cases hR:kQ c.H g.has g.res g.ps f.body with
 |ok x=>
  obtain⟨ys,W⟩:=x
  rw[hR]at hB
  simp only at hB ⊢
  intro aa
  have ev:=λwl aa bx=>HX (wl:=wl) (aa:=aa) (c:=(c.lM g).bK W) (r:=[]) (bx:=bx)
  have Wk:((c.lM g).bK W).V=W:=rfl
  rw[Wk]at ev
  generalize ((c.lM g).bK W).obj=o3 at *
  generalize (c.lM g).obj=o2 at *
  have y1:aG (cp 9 (Sm.rows ys))=true:=dm
  have y2:(cp 9 (Sm.rows ys)).view=bz ys:=rfl
  have y3:=bD y1
  have y4:=bC y1
  generalize cp 9 (Sm.rows ys)=my at *
  have w1:aG (bT W)=true:=jl
  have w2:(bT W).view=bT W:=jN
  generalize bT W=fw at *
  generalize bT g.ps=fg at *
  generalize bz f.body=fb at *
  refine ay (sf:=s42) rfl rfl rfl ?_
  simp[-ax,-ah,s42,ec,h1,h2,hB,ev,p1,p2,q1,q2,w1,y1,af,AV.view,AV.au,AV.ai,aA,az]
 |error a=>
  rw[hR]at hB
  simp only at hB ⊢
  intro aa
  obtain⟨W,v,v1,hB⟩:=hB 1
  refine⟨W,v,v1,?_⟩
  have ev:=λwl aa bx=>HX (wl:=wl) (aa:=aa) (c:=((c.lM g).bK W).fail a) (r:=[]) (bx:=bx)
  have Wk:(((c.lM g).bK W).fail a).V=W:=Y6
  rw[Wk]at ev
  generalize (((c.lM g).bK W).fail a).obj=o3 at *
  generalize (c.lM g).obj=o2 at *
  have v3:=bD v1
  have v4:=bC v1
  have v5:aG v.view=true:=by rw[qW];exact v1
  have w1:aG (bT W)=true:=jl
  have w2:(bT W).view=bT W:=jN
  generalize bT W=fw at *
  generalize bT g.ps=fg at *
  generalize bz f.body=fb at *
  refine ay (sf:=s42) rfl rfl rfl ?_
  simp[-ax,-ah,s42,ec,h1,h2,hB,ev,p1,p2,q1,q2,w1,v1,af,AV.view,AV.au,AV.ai,aA,az]
open N7 U7 in
theorem Au (p:Pg):kg (dn (jZ p).aQ)=bS p:=by
 rw[qo]
 simp[kg,bS,HW]
def mz (H:Hd)(m:Int):List AV:=[aD 2 (H.bQ.map iT),bT H.globals,aD 6 (H.sigs.map Sg.row),.int .i64 m]
theorem uu (rs:List (List UInt8))(l:List PD):gD rs l=(lC rs l).map Vd.row:=by
 simp only[gD,lC,List.map_map]
 exact List.map_congr_left λq _=>rfl
open N7 U7 in
def fA (p:Pg):Int:=vU (jr (jZ p).funcs)
open N7 U7 in
theorem Q7 (p:Pg):Cb (jZ p)=.agg (mz (aS p) (fA p)):=by
 unfold Cb mz fA
 have h1:nu (kg (dn (jZ p).aQ)) (dn (jZ p).aQ)=(aS p).bQ.map iT:=by
  rw[Au,qo]
  simp only[nu,aS,List.map_map]
  exact List.map_congr_left λr _=>by simp only[Function.comp,Fh,HW,nw,iT,uu];rfl
 have h2:gD (kg (dn (jZ p).aQ)) (nY (jZ p).globals)=(aS p).globals.map Vd.row:=by
  rw[Au,Fm,uu];rfl
 have h3:ij (kg (dn (jZ p).aQ)) (jr (jZ p).funcs)=(aS p).sigs.map Sg.row:=by
  rw[Au,oH]
  simp only[ij,aS,List.map_map]
  refine List.map_congr_left λf _=>?_
  simp only[Function.comp,iA,zW,nw,Sg.row,ud,U7.nW,uu]
  obtain⟨n,ps,has,on,od,body,a⟩:=f
  cases has<;>rfl
 rw[h1,h2,h3]
 rfl
theorem Lh (p:Pg):(aS p).ok:=by
 refine⟨by simp[aS,bS],?_,?_,?_⟩
 ·intro s hs f hf
  simp only[aS]at hs
  obtain⟨r,_,rfl⟩:=List.mem_map.1 hs
  simp only[lC]at hf
  obtain⟨q,_,rfl⟩:=List.mem_map.1 hf
  exact kH _ _ _
 ·intro f hf
  simp only[aS,lC]at hf
  obtain⟨q,_,rfl⟩:=List.mem_map.1 hf
  exact kH _ _ _
 ·intro s hs
  simp only[aS]at hs
  obtain⟨r,_,rfl⟩:=List.mem_map.1 hs
  refine⟨?_,λf hf=>?_⟩
  ·simp only[ud]
   split
   ·exact kH _ _ _
   ·exact QB
  ·simp only[ud,lC]at hf
   obtain⟨q,_,rfl⟩:=List.mem_map.1 hf
   exact kH _ _ _
abbrev Z5:AV:=.agg [.U,.U,.U,.int .i64 0,.U]
def zX (H:Hd)(m:Int)(r:Except Int (List Bd)):AV:=match r with
 |.error a=>.fz [Z5,.agg [.int .i64 3,.int .i64 a]]
 |.ok l=>.fz [.agg (mz H m++[aD 3 (l.map Bd.row)]),.agg [.int .i64 0,.int .i64 0]]
open N7 U7 in
def sK (p:Pg):AV:=match kj (jZ p) with
 |some a=>.fz [Z5,.agg [.int .i64 3,.int .i64 a]]
 |none=>zX (aS p) (fA p) (qk (aS p) (aS p).sigs p.funcs)
def M6 (bs:List Bd)(r:Except Int (List Bd)):Except Int (List Bd):=match r with
 |.error x=>.error x
 |.ok zs=>.ok (bs++zs)
theorem Q8 {H:Hd}{ss:List Sg}{fs:List Fc}{bs:List Bd}{k:Nat}(h:k<ss.length)(h2:k<fs.length):M6 bs (qk H (ss.drop k) (fs.drop k))=match kQ H ss[k].has ss[k].res ss[k].ps fs[k].body with
  |.error x=>.error x
  |.ok (c,W)=>M6 (bs++[⟨W,c,fs[k].a⟩]) (qk H (ss.drop (k+1)) (fs.drop (k+1))):=by
 rw[List.drop_eq_getElem_cons h,List.drop_eq_getElem_cons h2]
 conv=>lhs;arg 2;unfold qk
 cases kQ H ss[k].has ss[k].res ss[k].ps fs[k].body with
 |error x=>rfl
 |ok x=>
  obtain⟨c,W⟩:=x
  simp only
  cases qk H (List.drop (k+1) ss) (List.drop (k+1) fs) with
  |error x=>rfl
  |ok x=>simp[M6]
def CK.Q9 (c:CK)(w:AV):fB:=.rows 0 14 [[aD 2 (c.H.bQ.map iT),bT c.H.globals,aD 6 (c.H.sigs.map Sg.row),.int .i64 c.main,w,.str c.sg.nm,bT c.sg.ps,.bool c.sg.has,.int .i64 c.sg.res.b,.int .i64 c.sg.res.r,.int .i64 c.sg.res.d,cp 4 (c.V.map Vd.row),.int .i64 c.fe,.int .i64 c.fa]]
def CK.Y7 (c:CK)(R:List (List UInt8)):CK:={ c with H:={ c.H with rs:=R } }
theorem U4 {aa:Nat}{c:CK}{bx:aX}:aL 0 aa (.load false 1 true) [.val (.ptr 0 0 0 4)] [c.obj] bx=some (.val (cp 1 (gw c.H.rs)),[c.Q9 (cp 1 (gw c.H.rs)).ir],bx):=by
 simp only[CK.obj,CK.Q9]
 generalize gw c.H.rs=rows
 cases rows with
 |nil=>simp[aL,cp,cut,fN,dL,bp,AV.ir,AV.au,AV.ai,af,bZ]
 |cons a l=>simp[aL,cp,cut,fN,dL,bp,AV.ir,AV.au,AV.ai,af,bZ]
theorem Y8 {aa:Nat}{c:CK}{w:AV}{R:List (List UInt8)}{bx:aX}:aL 0 aa (.store 1) [.val (.ptr 0 0 0 4),.val (cp 1 (gw R))] [c.Q9 w] bx=some (.none,[(c.Y7 R).obj],bx):=by
 simp[CK.obj,CK.Q9,CK.Y7,bp,AV.ai,af]
theorem Y9 {wl aa:Nat}{c:CK}{r:an}{bx:aX}:aL wl aa (.load true 2 false) [.val (.ptr 0 0 0 12)] (c.obj::r) bx=some (.val (.agg [.int .i64 c.fe,.int .i64 c.fa]),c.obj::r,bx):=by
 simp[CK.obj,cut,AV.view]
def sg0:Sg:=⟨[],[],false,T0⟩
def Li (H:Hd)(m:Int)(R:List (List UInt8)):CK:=⟨{ H with rs:=R },m,sg0,[],0,0⟩
theorem U5 {l:List Rc}{k:Nat}(h:k<l.length):(l.map Rc.row)[k]?=some [.str l[k].name,aD 4 (l[k].fields.map PD.cells),.int .i64 l[k].a]:=by simp[h,Rc.row]
theorem Za {l:List Fc}{k:Nat}(h:k<l.length):(l.map Fc.row)[k]?=some [.str l[k].name,aD 4 (l[k].params.map PD.cells),.bool l[k].has,.str l[k].on,.int .i64 l[k].od,bz l[k].body,.int .i64 l[k].a]:=by simp[h,Fc.row]
theorem M7 (H:Hd)(m:Int)(r:Except Int (List Bd)):(zX H m r).au=true:=by
 cases r<;>simp[zX,mz,AV.au,AV.ai]
theorem Ic (p:Pg):(sK p).au=true:=by
 unfold sK
 split
 ·simp[AV.au,AV.ai]
 ·exact M7 _ _ _
open N7 U7 in
theorem Ie (wl aa:Nat)(p:Pg)(st:an)(hg:(jZ p).ok)(nU:GD.sm (jZ p))(dZ:∀f∈p.funcs,f.params.length+Sm.dV f.body<1000000000) :
  (aU S).call wl aa 20 [.agg p.row] st=some (sK p,st):=by
 have em:∀wl aa st,(aU S).call wl aa 41 [.agg p.row] st=some (QL (jZ p),st):=λwl aa st=>Fi wl aa (jZ p) st hg nU
 refine bf (sf:=s20) rfl rfl (by simp[Pg.row,AV.ai,AV.au]) rfl (Ic p) ?_
 unfold sK
 unfold QL at em
 cases hF:kj (jZ p) with
 |some a=>
  rw[hF]at em
  simp only[HP,fE,fX,Pg.row]at em ⊢
  simp[-ax,-ah,s20,em,af,AV.view,aA,az]
 |none=>
  rw[hF,Q7]at em
  simp only[fE,fX,Pg.row,mz]at em ⊢
  have Od:(Li (aS p) (fA p) []).obj=.rows 0 14 [[aD 2 ((aS p).bQ.map iT),bT (aS p).globals,aD 6 ((aS p).sigs.map Sg.row),.int .i64 (fA p),.U,.str [],.U,.bool false,.int .i64 0,.int .i64 0,.int .i64 0,.U,.int .i64 0,.int .i64 0]]:=by
   simp[CK.obj,Li,sg0,gw,nk,bT]
  have s7:∀wl aa bx,aL wl aa (.box 14) [.val (.agg [aD 2 ((aS p).bQ.map iT),bT (aS p).globals,aD 6 ((aS p).sigs.map Sg.row),.int .i64 (fA p),.U,.str [],.U,.bool false,.int .i64 0,.int .i64 0,.int .i64 0,.U,.int .i64 0,.int .i64 0])] [] bx =
    some (.val (.ptr 0 0 0 0),[(Li (aS p) (fA p) []).obj],bx):=λwl aa bx=>by rw[Od];simp
  have t1:aG (aD 2 ((aS p).bQ.map iT))=true:=bq
  have t2:(aD 2 ((aS p).bQ.map iT)).view=aD 2 ((aS p).bQ.map iT):=br
  have t3:aG (aD 6 ((aS p).sigs.map Sg.row))=true:=bq
  have t4:(aD 6 ((aS p).sigs.map Sg.row)).view=aD 6 ((aS p).sigs.map Sg.row):=br
  have t5:cD 6 (aD 6 ((aS p).sigs.map Sg.row))=true:=iJ (by simp[fits,Sg.row])
  have t6:aP (aD 6 ((aS p).sigs.map Sg.row))=(aS p).sigs.map Sg.row:=aO
  have r1:aG (aD 3 (p.aQ.map Rc.row))=true:=bq
  have r2:(aD 3 (p.aQ.map Rc.row)).view=aD 3 (p.aQ.map Rc.row):=br
  have r3:cD 3 (aD 3 (p.aQ.map Rc.row))=true:=iJ (by simp[fits,Rc.row])
  have r4:aP (aD 3 (p.aQ.map Rc.row))=p.aQ.map Rc.row:=aO
  have f1:aG (aD 7 (p.funcs.map Fc.row))=true:=bq
  have f2:(aD 7 (p.funcs.map Fc.row)).view=aD 7 (p.funcs.map Fc.row):=br
  have f3:cD 7 (aD 7 (p.funcs.map Fc.row))=true:=iJ (by simp[fits,Fc.row])
  have f4:aP (aD 7 (p.funcs.map Fc.row))=p.funcs.map Fc.row:=aO
  have g1:aG (aD 4 (p.globals.map PD.cells))=true:=bq
  have g2:(aD 4 (p.globals.map PD.cells)).view=aD 4 (p.globals.map PD.cells):=br
  generalize hHS:aD 2 ((aS p).bQ.map iT)=HS at *
  generalize hHG:aD 6 ((aS p).sigs.map Sg.row)=HG at *
  generalize aD 3 (p.aQ.map Rc.row)=PR at *
  generalize aD 7 (p.funcs.map Fc.row)=PF at *
  generalize aD 4 (p.globals.map PD.cells)=PG at *
  simp[-ax,-ah,-KM,s20,em,s7,t1,t2,t3,t4,r1,r2,r4,f1,f2,g1,g2,af,AV.view]
  have Nz:(bS p).length=p.aQ.length:=by simp[bS]
  have hrn:p.aQ.length<1000000000:=by have:=nU.aQ;rw[qo,List.length_map]at this;exact this
  have Mk:p.funcs.length<1000000000:=by have:=nU.funcs;rw[oH,List.length_map]at this;exact this
  have hHr:(Li (aS p) (fA p) (bS p)).H=aS p:=rfl
  generalize hGL:bT (aS p).globals=GL at *
  have gl1:aG GL=true:=by rw[<-hGL];exact jl
  have gl2:GL.view=GL:=by rw[<-hGL];exact jN
  refine bu Pv.eq_1 (λx:Nat×List AV=>⟨[(1,.fp 0 0),(2,.fp 1 0),(3,.fp 2 0),(4,.fp 3 0),(6,.val (.ptr 0 0 0 0)),(26,.val PR),(27,.val (.int .i64 p.aQ.length)),(28,.val (.int .i64 x.1))],
   [[PR,PG,PF],[.U,.U,.U,.int .i64 0,.U],[.int .i64 0,.int .i64 0],[HS,GL,HG,.int .i64 (fA p)],[.int .i64 0,.int .i64 0],x.2,[],[]],[(Li (aS p) (fA p) ((bS p).take x.1)).obj]⟩)
   (λx=>x.1<=p.aQ.length) (λx=>p.aQ.length-x.1) (0,[]) (by simp) (by simp) ?_
  rintro⟨k,b⟩ hk ih
  simp only at hk ih
  by_cases aV:k<p.aQ.length
  ·have vA:IntKind.i64.wrap ((k:Int)+1)=((k+1:Nat):Int):=by rw[wrap64]<;>omega
   have gR:=U5 aV
   have gR':∀h:k<(p.aQ.map Rc.row).length,(p.aQ.map Rc.row)[k]=[.str p.aQ[k].name,aD 4 (p.aQ[k].fields.map PD.cells),.int .i64 p.aQ[k].a]:=λh=>by simp[Rc.row]
   have oz:=fL (sz:=1) (bytes:=16) (r:=gw ((bS p).take k)) (new:=[[.str p.aQ[k].name]]) (by simp[fits]) (by simp[room,gw];omega)
   have YD:gw ((bS p).take k)++[[.str p.aQ[k].name]]=gw ((bS p).take (k+1)):=by
    rw[List.take_succ_eq_append_getElem (by rw[Nz];exact aV)]
    simp[gw,bS]
   rw[YD]at oz
   have et:=λaa bx=>U4 (aa:=aa) (c:=Li (aS p) (fA p) ((bS p).take k)) (bx:=bx)
   have ep:=λaa bx=>Y8 (aa:=aa) (c:=Li (aS p) (fA p) ((bS p).take k)) (w:=(cp 1 (gw ((bS p).take k))).ir) (R:=(bS p).take (k+1)) (bx:=bx)
   have NX:(Li (aS p) (fA p) ((bS p).take k)).Y7 ((bS p).take (k+1))=Li (aS p) (fA p) ((bS p).take (k+1)):=rfl
   rw[NX]at ep
   have Sq:(Li (aS p) (fA p) ((bS p).take k)).H.rs=(bS p).take k:=rfl
   rw[Sq]at et
   have fD:=λb=>ih (k+1,b) (by simp only;omega) (by simp only;omega)
   simp only at fD
   generalize (Li (aS p) (fA p) ((bS p).take (k+1))).obj=o1 at *
   generalize (Li (aS p) (fA p) ((bS p).take k)).Q9 (cp 1 (gw ((bS p).take k))).ir=o2 at *
   generalize (Li (aS p) (fA p) ((bS p).take k)).obj=o3 at *
   generalize cp 1 (gw ((bS p).take (k+1)))=m1 at *
   generalize cp 1 (gw ((bS p).take k))=m2 at *
   generalize p.aQ[k]=rc at *
   simp[-ax,-ah,bL,aV,vA,r3,r4,gR',et,ep,oz,af,AV.view,aA,az]
   exact fD _
  ·have de:k=p.aQ.length:=by omega
   subst de
   have C5:(bS p).take p.aQ.length=bS p:=by rw[<-Nz,List.take_length]
   rw[C5]
   simp[-ax,-ah,t1,t2,t3,t4,f1,f2,f4,gl1,gl2,af,AV.view]
   have dM:(aS p).sigs.length=p.funcs.length:=by simp[aS]
   have ail:∀(d:CK) (g:Sg),d.H=aS p->g∈(aS p).sigs->Way (d.lM g):=λd g hd Fu=>by
    have W9:=Lh p
    have A4:(aS p).globals.length<1000000000:=by have:=nU.globals;rw[Fm]at this;simpa [aS,lC] using this
    have hF:∀s∈(aS p).bQ,s.2.length<1000000000:=λs hs=>by
     obtain⟨r,hr,rfl⟩:=List.mem_map.1 hs
     have:=nU.fields (HW r) (by rw[qo];exact List.mem_map_of_mem hr)
     simpa [HW,nw,lC] using this
    have hP:∀s∈(aS p).sigs,s.ps.length<1000000000:=λs hs=>by
     obtain⟨r,hr,rfl⟩:=List.mem_map.1 hs
     have:=nU.params (zW r) (by rw[oH];exact List.mem_map_of_mem hr)
     simpa [zW,nw,ud,lC] using this
    refine⟨⟨hP g Fu,?_,?_,?_,?_,?_⟩,?_,?_⟩
    ·show d.H.globals.length<_;rw[hd];exact A4
    ·show d.H.sigs.length<_;rw[hd,dM];exact Mk
    ·show d.H.rs.length<_;rw[hd];show (bS p).length<_;rw[Nz];exact hrn
    ·show ∀s∈d.H.bQ,_;rw[hd];exact hF
    ·show ∀s∈d.H.sigs,_;rw[hd];exact hP
    ·show d.H.ok;rw[hd];exact W9
    ·show ∀f∈g.ps,WT d.H.rs.length f.ty;rw[hd];exact(W9.sigs g Fu).2
   refine bu Pw.eq_1 (λx:Nat×List Bd×CK×List AV=>⟨[(2,.fp 1 0),(3,.fp 2 0),(4,.fp 3 0),(6,.val (.ptr 0 0 0 0)),(9,.fp 6 0),(47,.val PF),(48,.val (.int .i64 p.funcs.length)),(49,.val (.int .i64 x.1))],
    [[PR,PG,PF],[.U,.U,.U,.int .i64 0,.U],[.int .i64 0,.int .i64 0],[HS,GL,HG,.int .i64 (fA p)],[.int .i64 0,.int .i64 0],b,[HS,GL,HG,.int .i64 (fA p),cp 3 (x.2.1.map Bd.row)],x.2.2.2],[x.2.2.1.obj]⟩)
    (λx=>x.1<=p.funcs.length/\x.2.1.length=x.1/\x.2.2.1.H=aS p/\x.2.2.1.fe=0/\M6 x.2.1 (qk (aS p) ((aS p).sigs.drop x.1) (p.funcs.drop x.1))=qk (aS p) (aS p).sigs p.funcs)
    (λx=>p.funcs.length-x.1) (0,[],Li (aS p) (fA p) (bS p),[]) (by simp[nk]) ⟨by simp,rfl,rfl,rfl,by simp[M6];split<;>rename_i h<;>exact h.symm⟩ ?_
   rintro⟨k,bs,d,b7⟩ ⟨hk,Z3,hd,hdf,hp⟩ ih
   simp only at hk Z3 hd hdf hp ih
   by_cases pV:k<p.funcs.length
   ·have s8:k<(aS p).sigs.length:=by omega
    have vA:IntKind.i64.wrap ((k:Int)+1)=((k+1:Nat):Int):=by rw[wrap64]<;>omega
    have gF:=Za pV
    have gF':∀h:k<(p.funcs.map Fc.row).length,(p.funcs.map Fc.row)[k]=[.str p.funcs[k].name,aD 4 (p.funcs[k].params.map PD.cells),.bool p.funcs[k].has,.str p.funcs[k].on,.int .i64 p.funcs[k].od,bz p.funcs[k].body,.int .i64 p.funcs[k].a]:=λh=>by simp[Fc.row]
    have gS:((aS p).sigs.map Sg.row)[k]?=some [.str (aS p).sigs[k].nm,bT (aS p).sigs[k].ps,.bool (aS p).sigs[k].has,.int .i64 (aS p).sigs[k].res.b,.int .i64 (aS p).sigs[k].res.r,.int .i64 (aS p).sigs[k].res.d]:=by simp[s8,Sg.row]
    have JR:∀h:k<((aS p).sigs.map Sg.row).length,((aS p).sigs.map Sg.row)[k]=[.str (aS p).sigs[k].nm,bT (aS p).sigs[k].ps,.bool (aS p).sigs[k].has,.int .i64 (aS p).sigs[k].res.b,.int .i64 (aS p).sigs[k].res.r,.int .i64 (aS p).sigs[k].res.d]:=λh=>by simp[Sg.row]
    rw[Q8 s8 pV]at hp
    have Ts:(aS p).sigs[k].ps.length=p.funcs[k].params.length:=by simp[aS,ud,lC]
    have hB:=U3 d p.funcs[k] (aS p).sigs[k] hdf (ail d _ hd (List.getElem_mem s8)) (by rw[Ts];exact dZ _ (List.getElem_mem pV))
    rw[hd]at hB
    have oz:∀cs:List AV,cs.length=3->vv 3 56 (cp 3 (bs.map Bd.row)) [cs]=some (cp 3 (bs.map Bd.row++[cs])):=λcs hc=>fL (by simp[fits,hc]) (by simp[room];omega)
    have ps1:aG (aD 4 (p.funcs[k].params.map PD.cells))=true:=bq
    have ps2:(aD 4 (p.funcs[k].params.map PD.cells)).view=aD 4 (p.funcs[k].params.map PD.cells):=br
    have bd1:aG (bz p.funcs[k].body)=true:=bJ
    have bd2:(bz p.funcs[k].body).view=bz p.funcs[k].body:=bM
    have sp1:aG (bT (aS p).sigs[k].ps)=true:=jl
    have sp2:(bT (aS p).sigs[k].ps).view=bT (aS p).sigs[k].ps:=jN
    simp only[Fc.row,Sg.row]at hB
    generalize hrS:(aS p).sigs.map Sg.row=RS at *
    generalize hrF:p.funcs.map Fc.row=RF at *
    have Ra:k<RS.length:=by rw[<-hrS,List.length_map];exact s8
    have Zb:k<RF.length:=by rw[<-hrF,List.length_map];exact pV
    have U6:=JR Ra
    have adC:=gF' Zb
    clear JR gF'
    cases hR:kQ (aS p) (aS p).sigs[k].has (aS p).sigs[k].res (aS p).sigs[k].ps p.funcs[k].body with
    |error a=>
     rw[hR]at hp hB
     simp only at hp hB
     obtain⟨W,v,v1,hB⟩:=hB 0
     have F7:(((d.lM (aS p).sigs[k]).bK W).fail a).fe=3/\(((d.lM (aS p).sigs[k]).bK W).fail a).fa=a:=by
      have:((d.lM (aS p).sigs[k]).bK W).fe=0:=hdf
      unfold CK.fail
      rw[if_pos this]
      exact⟨rfl,rfl⟩
     have lQ:=λaa=>cu aa (((d.lM (aS p).sigs[k]).bK W).fail a) []
     rw[decide_eq_false iX]at lQ
     have hcf:∀wl aa bx,aL wl aa (.load true 2 false) [.val (.ptr 0 0 0 12)] [(((d.lM (aS p).sigs[k]).bK W).fail a).obj] bx=some (.val (.agg [.int .i64 3,.int .i64 a]),[(((d.lM (aS p).sigs[k]).bK W).fail a).obj],bx):=λwl aa bx=>by
      rw[Y9,F7.1,F7.2]
     rw[<-hp]
     simp only[zX]
     generalize (((d.lM (aS p).sigs[k]).bK W).fail a).obj=o1 at *
     have w1:aG (bT W)=true:=jl
     have w2:(bT W).view=bT W:=jN
     generalize bT W=FW at *
     have ap:=oz [FW,v.view,.int .i64 p.funcs[k].a] rfl
     have v2:=bD v1
     have v3:=bC v1
     have v4:aG v.view=true:=by rw[qW];exact v1
     generalize aD 4 (p.funcs[k].params.map PD.cells)=PP at *
     generalize bz p.funcs[k].body=PB at *
     generalize bT (aS p).sigs[k].ps=SP at *
     generalize cp 3 (bs.map Bd.row)=BL at *
     generalize p.funcs[k]=fk at *
     generalize (aS p).sigs[k]=gk at *
     simp[-ax,-ah,bL,pV,f3,f4,adC,U6,Ra,Zb,t4,t5,t6,ps1,ps2,bd1,bd2,sp2,hB,w1,w2,v4,ap,lQ,hcf,af,AV.view,AV.au,AV.ai,aA,az]
    |ok x=>
     obtain⟨c,W⟩:=x
     rw[hR]at hp hB
     simp only at hp hB
     have fD:=λb7=>ih (k+1,bs++[⟨W,c,p.funcs[k].a⟩],(d.lM (aS p).sigs[k]).bK W,b7) ⟨by simp only;omega,by simp[Z3],hd,hdf,hp⟩ (by simp only;omega)
     simp only[List.map_append,List.map_cons,List.map_nil,Bd.row]at fD
     have lQ:=λaa=>cu aa ((d.lM (aS p).sigs[k]).bK W) []
     rw[decide_eq_true (show ((d.lM (aS p).sigs[k]).bK W).fe=0 from hdf)]at lQ
     generalize ((d.lM (aS p).sigs[k]).bK W).obj=o1 at *
     have w1:aG (bT W)=true:=jl
     have w2:(bT W).view=bT W:=jN
     generalize bT W=FW at *
     have ap:=oz [FW,bz c,.int .i64 p.funcs[k].a] rfl
     have c1:aG (cp 9 (Sm.rows c))=true:=dm
     have c2:(cp 9 (Sm.rows c)).view=bz c:=rfl
     have c3:=bD c1
     have c4:=bC c1
     have c5:aG (bz c)=true:=bJ
     generalize cp 9 (Sm.rows c)=MC at *
     generalize bz c=SC at *
     generalize aD 4 (p.funcs[k].params.map PD.cells)=PP at *
     generalize bz p.funcs[k].body=PB at *
     generalize bT (aS p).sigs[k].ps=SP at *
     have n1:aG (cp 3 (bs.map Bd.row++[[FW,SC,.int .i64 p.funcs[k].a]]))=true:=dm
     generalize cp 3 (bs.map Bd.row++[[FW,SC,.int .i64 p.funcs[k].a]])=BN at *
     generalize cp 3 (bs.map Bd.row)=BL at *
     generalize p.funcs[k]=fk at *
     generalize (aS p).sigs[k]=gk at *
     simp[-ax,-ah,bL,pV,vA,f3,f4,adC,U6,Ra,Zb,t4,t5,t6,ps1,ps2,bd1,bd2,sp2,hB,w1,w2,c2,c5,n1,ap,lQ,af,AV.view,AV.au,AV.ai,aA,az]
     exact fD _
   ·have de:k=p.funcs.length:=by omega
    have hR:qk (aS p) (aS p).sigs p.funcs=.ok bs:=by
     rw[<-hp,de,List.drop_length,<-dM,List.drop_length]
     simp[qk,M6]
    rw[hR]
    have n1:aG (cp 3 (bs.map Bd.row))=true:=dm
    have n2:(cp 3 (bs.map Bd.row)).view=aD 3 (bs.map Bd.row):=rfl
    have n3:=bD n1
    have n4:aG (aD 3 (bs.map Bd.row))=true:=bq
    simp only[zX,mz]
    rw[hHS,hHG,hGL]
    generalize cp 3 (bs.map Bd.row)=BL at *
    generalize aD 3 (bs.map Bd.row)=BV at *
    simp[-ax,-ah,pV,t1,t2,t3,t4,gl1,gl2,n2,n4,af,AV.view]
end K9
