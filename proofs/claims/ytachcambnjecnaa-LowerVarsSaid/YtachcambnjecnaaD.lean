/- Part of a proof. -/
import Derived.Test.YtachcambnjecnaaC
import Derived.Test.YtachcambnjecnaaP
import Derived.Test.YtachcambnjecnaaN

set_option maxRecDepth 100000
set_option maxHeartbeats 8000000
namespace K9
open Ax Go cp V7 j4 k8
theorem B1 {P:Prop}{es:List E}(h:es.length=1)(hp:∀e,es=[e]->P):P:=by
 match es,h with
 |[e],_=>exact hp e rfl
theorem jz (aa:Nat)(c:CK)(s:Sm)(_hn:s.es.length<1000000000):(aW S).call 0 aa 72 [.ptr 0 0 0 0,.agg s.row] [c.obj]=some (.bool (cY c.sg.has s.k s.es),[c.obj]):=by
 have cP:=Sm.aE s
 have hz:cI 11 (aT s.es)=true:=qf
 have dA:aG (aT s.es)=true:=bg
 have g9:(aT s.es).view=aT s.es:=bz
 have eY:aP (aT s.es)=E.rows s.es:=aR
 have m0:((s.es.length:Int)=0)=(s.es.length=0):=by simp
 have m1:((s.es.length:Int)=1)=(s.es.length=1):=by apply propext;omega
 have m2:((s.es.length:Int)=2)=(s.es.length=2):=by apply propext;omega
 rw[cP]
 generalize s.k=k at *
 unfold cY
 by_cases h1:k=1
 ·subst h1
  refine ax (sf:=xS) rfl rfl rfl ?_
  generalize aT s.es=kv at *
  simp[-au,-ag,xS,dA,g9,eY,AV.view]
 by_cases h4:k=4
 ·subst h4
  refine ax (sf:=xS) rfl rfl rfl ?_
  simp only[if_neg h1,if_true]
  match o6:s.es,eY,m2 with
  |[e,e2],eY,m2=>
   rw[o6]at hz dA g9
   simp only[E.rows]at eY
   rw[E.aE e,E.aE e2]at eY
   generalize aT [e,e2]=kv at *
   by_cases q:e.k=5
   ·simp[-au,-ag,xS,bH,hz,dA,g9,eY,q,AV.view]
   ·simp[-au,-ag,xS,bH,hz,dA,g9,eY,q,AV.view]
  |[],eY,m2=>
   rw[o6]at hz dA g9
   generalize aT []=kv at *
   simp[-au,-ag,xS,dA,g9,eY,E.rows,AV.view]
  |[e],eY,m2=>
   rw[o6]at hz dA g9
   simp only[E.rows]at eY
   generalize aT [e]=kv at *
   simp[-au,-ag,xS,dA,g9,eY,AV.view]
  |e::e2::e3::l,eY,m2=>
   rw[o6]at hz dA g9
   have hl3:¬((E.rows (e::e2::e3::l)).length:Int)=2:=by simp;omega
   generalize aT (e::e2::e3::l)=kv at *
   generalize E.rows (e::e2::e3::l)=rws at *
   simp[-au,-ag,xS,dA,g9,eY,hl3,AV.view]
 by_cases h7:k=7
 ·subst h7
  refine ax (sf:=xS) rfl rfl rfl ?_
  simp only[if_neg h1,if_neg h4,if_true]
  generalize aT s.es=kv at *
  have hc:=λwl aa r bx=>acO (wl:=wl) (aa:=aa) (c:=c) (r:=r) (bx:=bx)
  cases hh:c.sg.has with
  |false=>
   rw[hh]at hc
   by_cases q1:s.es.length=1
   ·simp[-au,-ag,xS,dA,g9,eY,q1,hc,AV.view]
   ·by_cases q0:s.es.length=0
    ·simp[-au,-ag,xS,dA,g9,eY,q0,hc,AV.view]
    ·simp[-au,-ag,xS,dA,g9,eY,m1,q0,q1,AV.view]
  |true=>
   rw[hh]at hc
   by_cases q1:s.es.length=1
   ·simp[-au,-ag,xS,dA,g9,eY,q1,hc,AV.view]
   ·by_cases q0:s.es.length=0
    ·simp[-au,-ag,xS,dA,g9,eY,q0,hc,AV.view]
    ·simp[-au,-ag,xS,dA,g9,eY,m1,q0,q1,AV.view]
 by_cases h9:k=9
 ·subst h9
  refine ax (sf:=xS) rfl rfl rfl ?_
  simp only[if_neg h1,if_neg h4,if_neg h7,if_true]
  match o6:s.es,eY,m2 with
  |[e],eY,m2=>
   rw[o6]at hz dA g9
   simp only[E.rows]at eY
   rw[E.aE e]at eY
   generalize aT [e]=kv at *
   simp[-au,-ag,xS,bH,hz,dA,g9,eY,AV.view]
  |[],eY,m2=>
   rw[o6]at hz dA g9
   generalize aT []=kv at *
   simp[-au,-ag,xS,dA,g9,eY,E.rows,AV.view]
  |e::e2::l,eY,m2=>
   rw[o6]at hz dA g9
   have hl3:¬((E.rows (e::e2::l)).length:Int)=1:=by simp;omega
   generalize aT (e::e2::l)=kv at *
   generalize E.rows (e::e2::l)=rws at *
   simp[-au,-ag,xS,dA,g9,eY,hl3,AV.view]
 refine ax (sf:=xS) rfl rfl rfl ?_
 simp only[if_neg h1,if_neg h4,if_neg h7,if_neg h9]
 generalize aT s.es=kv at *
 by_cases h2:k=2
 ·subst h2
  simp[-au,-ag,xS,dA,g9,eY,m1,AV.view]
 by_cases h3:k=3
 ·subst h3
  simp[-au,-ag,xS,dA,g9,eY,m1,AV.view]
 by_cases h5:k=5
 ·subst h5
  simp[-au,-ag,xS,dA,g9,eY,m1,AV.view]
 by_cases h6:k=6
 ·subst h6
  simp[-au,-ag,xS,dA,g9,eY,m1,AV.view]
 by_cases h8:k=8
 ·subst h8
  simp[-au,-ag,xS,dA,g9,eY,m1,AV.view]
 simp[-au,-ag,xS,h1,h2,h3,h4,h5,h6,h7,h8,h9,dA,AV.view]
def X3 (o:Option (Int×List Vd))(v:AV):Prop:=∃z:Int,v=.fm [.int .i64 z,.bool o.isSome]/\∀r W,o=some (r,W)->z=r
def kU (c:CK)(o:Option (Int×List Vd)):CK:=match o with|some (_,W)=>{ c with V:=W } | none=>c
theorem Ud (aa:Nat)(c:CK)(s:Sm)(t:T3)(hs:Small c)(hf:cY c.sg.has s.k s.es=true) :
  ∃v,X3 (ji c.H c.sg.res c.V s.k s.nm s.es t) v/\(aW S).call 0 aa 76 [.ptr 0 0 0 0,.agg s.row,.agg [.int .i64 t.b,.int .i64 t.r,.int .i64 t.d]] [c.obj]=some (v,[(kU c (ji c.H c.sg.res c.V s.k s.nm s.es t)).obj]):=by
 have eD:=λaa=>JC aa c s.nm t hs
 have eV:=λaa=>zd aa c s.nm [] hs
 have eN:=λwl aa st=>ye wl aa st
 have eT:=λwl aa st=>BY wl aa st
 have cP:=Sm.aE s
 have hz:cI 11 (aT s.es)=true:=qf
 have dA:aG (aT s.es)=true:=bg
 have g9:(aT s.es).view=aT s.es:=bz
 have eY:aP (aT s.es)=E.rows s.es:=aR
 have one:∀j,s.k=j->(j=2\/j=3\/j=5\/j=6\/j=8)->∃x,s.es=[x]:=λj hj h=>by
  have hlen:s.es.length=1:=by
   rw[hj]at hf
   rcases h with h|h|h|h|h<;>subst h<;>simpa [cY] using hf
  match hh:s.es,hlen with
  |[x],_=>exact⟨x,rfl⟩
 have hV:=hs.V
 rw[cP]
 unfold ji
 by_cases h1:s.k=1
 ·rw[if_pos h1,h1]
  cases hl:fW s.nm 0 c.V with
  |some x=>
   refine⟨.fm [.int .i64 0,.bool false],⟨0,rfl,λ_ _ h=>by cases h⟩,?_⟩
   rw[hl]at eD
   simp only[BZ]at eD
   refine ax (sf:=vN) rfl rfl rfl ?_
   generalize aT s.es=kv at *
   simp[-au,-ag,vN,eD,dA,kU,AV.view]
  |none=>
   refine⟨.fm [.int .i64 c.V.length,.bool true],⟨c.V.length,rfl,λ_ _ h=>by cases h;rfl⟩,?_⟩
   rw[hl]at eD
   simp only[BZ]at eD
   simp only[kU]
   refine ax (sf:=vN) rfl rfl rfl ?_
   generalize aT s.es=kv at *
   generalize ({ c with V:=c.V++[(⟨s.nm,t⟩:Vd)] }:CK).obj=V2 at *
   simp[-au,-ag,vN,eD,dA,AV.view]
 rw[if_neg h1]
 by_cases h2:s.k=2
 ·obtain⟨x,hx⟩:=one 2 h2 (by simp)
  rw[if_pos h2,h2]
  have a1:rV s.es=x.ty:=by rw[hx];rfl
  rw[a1]
  rw[show E.rows s.es=E.rows [x] from by rw[hx]]at eY
  simp only[E.rows,E.aE]at eY
  generalize aT s.es=kv at *
  by_cases q:x.ty=t
  ·rw[if_pos q]
   rw[<-q]at eD ⊢
   cases hl:fW s.nm 0 c.V with
   |some y=>
    refine⟨.fm [.int .i64 0,.bool false],⟨0,rfl,λ_ _ h=>by cases h⟩,?_⟩
    rw[hl]at eD
    simp only[BZ]at eD
    refine ax (sf:=vN) rfl rfl rfl ?_
    simp[-au,-ag,vN,eD,hz,dA,g9,eY,bH,kU,AV.view,aB,az]
   |none=>
    refine⟨.fm [.int .i64 c.V.length,.bool true],⟨c.V.length,rfl,λ_ _ h=>by cases h;rfl⟩,?_⟩
    rw[hl]at eD
    simp only[BZ]at eD
    simp only[kU]
    refine ax (sf:=vN) rfl rfl rfl ?_
    generalize ({ c with V:=c.V++[(⟨s.nm,x.ty⟩:Vd)] }:CK).obj=V2 at *
    simp[-au,-ag,vN,eD,hz,dA,g9,eY,bH,AV.view,aB,az]
  ·rw[if_neg q]
   refine⟨.fm [.int .i64 0,.bool false],⟨0,rfl,λ_ _ h=>by cases h⟩,?_⟩
   refine ax (sf:=vN) rfl rfl rfl ?_
   simp[-au,-ag,vN,hz,dA,g9,eY,bH,dU,q,kU,AV.view,aB,az]
 rw[if_neg h2]
 by_cases h3:s.k=3
 ·obtain⟨x,hx⟩:=one 3 h3 (by simp)
  rw[if_pos h3,h3]
  have a1:rV s.es=x.ty:=by rw[hx];rfl
  rw[a1]
  rw[show E.rows s.es=E.rows [x] from by rw[hx]]at eY
  simp only[E.rows,E.aE]at eY
  generalize aT s.es=kv at *
  cases hv:x4 c.H c.V s.nm with
  |none=>
   refine⟨.fm [.int .i64 0,.bool false],⟨0,rfl,λ_ _ h=>by cases h⟩,?_⟩
   rw[hv]at eV
   simp only[Hx]at eV
   refine ax (sf:=vN) rfl rfl rfl ?_
   simp[-au,-ag,vN,eV,dA,kU,af,AV.view,aB,az]
  |some y=>
   obtain⟨u,r⟩:=y
   rw[hv]at eV
   simp only[Hx]at eV
   by_cases q:u=x.ty
   ·refine⟨.fm [.int .i64 r,.bool true],⟨r,by simp[q],λ_ _ h=>by simp[q]at h;exact h.1⟩,?_⟩
    simp only[if_pos q]
    refine ax (sf:=vN) rfl rfl rfl ?_
    simp[-au,-ag,vN,eV,hz,dA,g9,eY,bH,q,kU,af,AV.view,aB,az]
   ·refine⟨.fm [.int .i64 r,.bool false],⟨r,by simp[q],λ_ _ h=>by simp[q]at h⟩,?_⟩
    simp only[if_neg q]
    refine ax (sf:=vN) rfl rfl rfl ?_
    simp[-au,-ag,vN,eV,hz,dA,g9,eY,bH,dU,q,kU,af,AV.view,aB,az]
 rw[if_neg h3]
 have fin:∀(p:Prop) [Decidable p],X3 (if p then some ((0:Int),c.V) else none) (.fm [.int .i64 0,.bool (decide p)]):=λp _=>by
  refine⟨0,?_,λr W h=>?_⟩
  ·by_cases q:p<;>simp[q]
  ·split at h<;>cases h;rfl
 have Qr:∀(p:Prop) [Decidable p],kU c (if p then some ((0:Int),c.V) else none)=c:=λp _=>by
  by_cases q:p<;>simp[q,kU]
 by_cases h4:s.k=4
 ·rw[if_pos h4,h4]
  obtain⟨x,y,hx⟩:∃x y,s.es=[x,y]:=by
   rw[h4]at hf
   unfold cY at hf
   match hh:s.es,hf with
   |[x,y],_=>exact⟨x,y,rfl⟩
  have a1:rV s.es=x.ty:=by rw[hx];rfl
  have a2:BI s.es=y.ty:=by rw[hx];rfl
  rw[a1,a2]
  rw[show E.rows s.es=E.rows [x,y] from by rw[hx]]at eY
  simp only[E.rows,E.aE]at eY
  generalize aT s.es=kv at *
  refine⟨_,fin _,?_⟩
  rw[Qr]
  refine ax (sf:=vN) rfl rfl rfl ?_
  simp[-au,-ag,vN,hz,dA,g9,eY,bH,dU,AV.view,aB,az]
 rw[if_neg h4]
 by_cases h5:s.k=5
 ·obtain⟨x,hx⟩:=one 5 h5 (by simp)
  rw[if_pos (.inl h5),h5]
  have a1:rV s.es=x.ty:=by rw[hx];rfl
  rw[a1]
  rw[show E.rows s.es=E.rows [x] from by rw[hx]]at eY
  simp only[E.rows,E.aE]at eY
  generalize aT s.es=kv at *
  refine⟨_,fin _,?_⟩
  rw[Qr]
  refine ax (sf:=vN) rfl rfl rfl ?_
  simp[-au,-ag,vN,hz,dA,g9,eY,bH,eT,dB,AV.view,aB,az]
 by_cases h6:s.k=6
 ·obtain⟨x,hx⟩:=one 6 h6 (by simp)
  rw[if_pos (.inr h6),h6]
  have a1:rV s.es=x.ty:=by rw[hx];rfl
  rw[a1]
  rw[show E.rows s.es=E.rows [x] from by rw[hx]]at eY
  simp only[E.rows,E.aE]at eY
  generalize aT s.es=kv at *
  refine⟨_,fin _,?_⟩
  rw[Qr]
  refine ax (sf:=vN) rfl rfl rfl ?_
  simp[-au,-ag,vN,hz,dA,g9,eY,bH,eT,dB,AV.view,aB,az]
 rw[if_neg (λh=>h.elim h5 h6)]
 by_cases h7:s.k=7
 ·rw[if_pos h7,h7]
  refine⟨_,fin _,?_⟩
  rw[Qr]
  rw[h7]at hf
  refine ax (sf:=vN) rfl rfl rfl ?_
  match o6:s.es with
  |[]=>
   rw[o6]at hz dA g9 eY
   generalize aT []=kv at *
   simp[-au,-ag,vN,dA,g9,eY,E.rows,AV.view,aB,az]
  |[x]=>
   rw[o6]at hz dA g9 eY
   simp only[E.rows,E.aE]at eY
   generalize aT [x]=kv at *
   have a1:rV [x]=x.ty:=rfl
   have cr:=λwl aa r bx=>acP (wl:=wl) (aa:=aa) (c:=c) (r:=r) (bx:=bx)
   simp[-au,-ag,vN,hz,dA,g9,eY,bH,cr,dU,a1,AV.view,aB,az]
  |x::y::l=>
   rw[o6]at hf
   simp[cY]at hf
 rw[if_neg h7]
 by_cases h8:s.k=8
 ·obtain⟨x,hx⟩:=one 8 h8 (by simp)
  rw[if_pos h8,h8]
  have a1:rV s.es=x.ty:=by rw[hx];rfl
  rw[a1]
  rw[show E.rows s.es=E.rows [x] from by rw[hx]]at eY
  simp only[E.rows,E.aE]at eY
  generalize aT s.es=kv at *
  refine⟨_,fin _,?_⟩
  rw[Qr]
  refine ax (sf:=vN) rfl rfl rfl ?_
  simp[-au,-ag,vN,hz,dA,g9,eY,bH,eN,dI,AV.view,aB,az]
 rw[if_neg h8]
 refine⟨.fm [.int .i64 0,.bool true],⟨0,rfl,λ_ _ h=>by cases h;rfl⟩,?_⟩
 simp only[kU]
 refine ax (sf:=vN) rfl rfl rfl ?_
 generalize aT s.es=kv at *
 simp[-au,-ag,vN,h1,h2,h3,h4,h5,h6,h7,h8,dA,AV.view]
end K9
namespace K9
open Ax Go cp V7 j4 k8
def CK.bF (c:CK)(W:List Vd):CK:={ c with V:=W }
def Qs (r:List AV):Prop:=∃(k:Int)(nm on:List UInt8)(od:Int)(es bd el:AV)(a ref:Int),r=[.int .i64 k,.str nm,.str on,.int .i64 od,es,bd,el,.int .i64 a,.int .i64 ref]/\aG es=true/\aG bd=true/\aG el=true
abbrev Z9:List AV:=[.int .i64 0,.str [],.str [],.int .i64 0,.U,.U,.U,.int .i64 0,.int .i64 0]
theorem qg:Qs Z9:=⟨0,[],[],0,.U,.U,.U,0,0,rfl,rfl,rfl,rfl⟩
def xC (c:CK)(s:Sm):Prop:=match sY c.H c.sg.has c.sg.res c.V s with
 |.ok (y,W)=>∀aa,(aW S).call 0 aa 59 [.ptr 0 0 0 0,.agg s.row] [c.obj]=some (.agg y.row,[(c.bF W).obj])
 |.error a=>∀aa,∃W row,Qs row/\(aW S).call 0 aa 59 [.ptr 0 0 0 0,.agg s.row] [c.obj]=some (.agg row,[((c.bF W).fail a).obj])
def JA (c:CK)(l:List Sm):Prop:=match j6 c.H c.sg.has c.sg.res c.V l with
 |.ok (ys,W)=>∀aa,(aW S).call 0 aa 43 [.ptr 0 0 0 0,br l] [c.obj]=some (b8 9 (Sm.rows ys),[(c.bF W).obj])
 |.error a=>∀aa,∃W v,aG v=true/\(aW S).call 0 aa 43 [.ptr 0 0 0 0,br l] [c.obj]=some (v,[((c.bF W).fail a).obj])
theorem E4 {c:CK}{W:List Vd}(h:Way c)(hW:∀f∈W,WT c.H.rs.length f.ty)(hl:W.length<1000000000):Way (c.bF W):=⟨⟨hl,h.s.G,h.s.S,h.s.R,h.s.F,h.s.P⟩,h.H,hW⟩
theorem DG (aa:Nat)(c:CK)(l:List Sm)(hf:c.fe≠0)(hn:l.length<1000000000):(aW S).call 0 aa 43 [.ptr 0 0 0 0,br l] [c.obj]=some (.U,[c.obj]):=by
 have hz:cI 9 (br l)=true:=EZ
 have dA:aG (br l)=true:=bE
 have g9:(br l).view=br l:=bJ
 have eY:aP (br l)=Sm.rows l:=aR
 have jx:=λaa=>cu aa c []
 rw[decide_eq_false hf]at jx
 refine ax (sf:=Vs) rfl rfl rfl ?_
 cases l with
 |nil=>
  generalize br []=lv at *
  rw[Sm.rows]at eY
  simp[-au,-ag,Vs,dA,g9,eY]
  rw[En Br.eq_1]
  simp[-au,-ag]
 |cons s l=>
  have hlen:0<(Sm.rows (s::l)).length:=by simp
  have hg:(Sm.rows (s::l))[0]?=some s.row:=by simp[Sm.rows]
  have E5:∀h:0<(Sm.rows (s::l)).length,(Sm.rows (s::l))[0]=s.row:=λh=>by simp[Sm.rows]
  generalize br (s::l)=lv at *
  generalize Sm.rows (s::l)=rws at *
  rw[Sm.aE]at hg
  have VF:0<rws.length:=hlen
  have acU:=E5 VF
  rw[Sm.aE]at acU
  simp[-au,-ag,Vs,dA,g9,eY]
  rw[En Br.eq_1]
  simp[-au,-ag,g9,eY,hz,VF,acU,bH,jx,af,AV.view]
theorem n7 (aa:Nat)(c:CK)(k:Int)(nm on:List UInt8)(od:Int)(ys:List E)(a:Int)(t:T3)(hs:Small c)(hf:cY c.sg.has k ys=true) :
  ∃v,X3 (ji c.H c.sg.res c.V k nm ys t) v/\(aW S).call 0 aa 76 [.ptr 0 0 0 0,.agg (Sm.mk k nm on od ys [] [] a 0).row,.agg [.int .i64 t.b,.int .i64 t.r,.int .i64 t.d]] [c.obj]=some (v,[(kU c (ji c.H c.sg.res c.V k nm ys t)).obj]):=
 Ud aa c (.mk k nm on od ys [] [] a 0) t hs hf
theorem X4 (c:CK)(s:Sm)(hn:s.es.length<1000000000)(h:cY c.sg.has s.k s.es=false):xC c s:=by
 unfold xC
 rw[mE,h]
 simp only[Bool.false_eq_true,if_false]
 intro aa
 refine⟨c.V,Z9,qg,?_⟩
 have kZ:=λaa=>jz aa c s hn
 rw[h]at kZ
 have en:=λwl aa st=>jG wl aa st
 have z9:=λaa=>dF aa c s.a []
 have nt:c.bF c.V=c:=rfl
 rw[nt]
 rw[Sm.aE s]at kZ ⊢
 generalize (c.fail s.a).obj=o at *
 refine ax (sf:=ku) rfl rfl rfl ?_
 simp[-au,-ag,ku,kZ,en,z9,af,AV.view,AV.an,AV.ah,aN,bp]
theorem X5 (c:CK)(s:Sm)(hf:c.fe=0)(hw:Way c)(dL:c.V.length+Sm.sz s<1000000000)(hk:s.k=1)(h:cY c.sg.has s.k s.es=true):xC c s:=by
 unfold xC
 have hz:=Sm.ni s
 have qH:=E.eW s.es
 have kZ:=λaa=>jz aa c s (by omega)
 rw[h]at kZ
 have en:=λwl aa st=>jG wl aa st
 have z9:=λaa=>dF aa c s.a []
 have lg:=λaa=>cu aa c []
 rw[decide_eq_true hf]at lg
 have nt:c.bF c.V=c:=rfl
 have cP:=Sm.aE s
 rw[hk]at cP
 rw[mE,h]
 rw[hk]at h ⊢
 simp only[if_true]
 rw[cP]at kZ ⊢
 have e1:aG (aT s.es)=true:=bg
 have e2:(aT s.es).view=aT s.es:=bz
 have b1:aG (br s.bd)=true:=bE
 have b2:(br s.bd).view=br s.bd:=bJ
 have l1:aG (br s.el)=true:=bE
 have l2:(br s.el).view=br s.el:=bJ
 have cw:=j9 c s.es hf (by omega) (λe he=>gx c hf hw e (by have:=E.iO he;omega))
 have th:vO c.H c.V 1 s.es=kG c.H c.V s.es:=qd (by decide)
 have ze:=λwl aa st=>wQ wl aa c.H.rs s.on s.od st hw.s.R
 have HB:iM c.H 1 s.on s.od=if (cH c.H.rs s.on s.od).2 then some (cH c.H.rs s.on s.od).1 else none:=if_pos (by decide)
 rw[HB]
 unfold VD at ze
 have hwt:=lN c.H.rs s.on s.od
 generalize cH c.H.rs s.on s.od=tt at *
 obtain⟨t,b⟩:=tt
 cases b with
 |false=>
  simp only[Bool.false_eq_true,if_false]
  intro aa
  refine⟨c.V,Z9,qg,?_⟩
  rw[nt]
  simp only at ze
  generalize aT s.es=ev at *
  generalize br s.bd=bv at *
  generalize br s.el=lv at *
  generalize (c.fail s.a).obj=o at *
  refine ax (sf:=ku) rfl rfl rfl ?_
  simp[-au,-ag,ku,kZ,en,e1,e2,b1,b2,l1,l2,vE,ze,z9,af,AV.view,AV.an,AV.ah,aB,aN,bp,az]
 |true=>
 simp only[if_true]
 simp only at ze
 rw[th]
 cases hv:kG c.H c.V s.es with
 |error a=>
  rw[hv]at cw
  simp only at cw ⊢
  intro aa
  refine⟨c.V,Z9,qg,?_⟩
  rw[nt]
  obtain⟨v,dA,ev⟩:=cw 1
  have CC:=bu dA
  have Mx:=cm dA
  have jx:=λaa=>cu aa (c.fail a) []
  rw[decide_eq_false iP]at jx
  generalize aT s.es=kv at *
  generalize br s.bd=bv at *
  generalize br s.el=lv at *
  generalize (c.fail a).obj=o at *
  refine ax (sf:=ku) rfl rfl rfl ?_
  simp[-au,-ag,ku,kZ,en,e1,e2,b1,b2,l1,l2,vE,ze,ev,dA,jx,af,AV.view,AV.an,AV.ah,aB,aN,bp,az]
 |ok ys=>
  rw[hv]at cw
  simp only at cw ⊢
  have nj:cY c.sg.has 1 ys=true:=lO hv h
  obtain⟨fv,⟨z,rfl,lX⟩,cF⟩:=n7 1 c 1 (bO 1 s.nm) (bh 1 s.on) (bn 1 s.od) ys s.a t hw.s nj
  simp only[lP]at lX cF
  have kj:(Sm.mk 1 (bO 1 s.nm) (bh 1 s.on) (bn 1 s.od) ys [] [] s.a 0).row=[.int .i64 1,.str s.nm,.str s.on,.int .i64 s.od,aT ys,.U,.U,.int .i64 s.a,.int .i64 0]:=by simp[Sm.row,Sm.rows,bO,bh,bn]
  rw[kj]at cF
  have m1:aG (b8 11 (E.rows ys))=true:=cV
  have m2:(b8 11 (E.rows ys)).view=aT ys:=rfl
  generalize b8 11 (E.rows ys)=mv at *
  have m3:=bu m1
  have m4:=cm m1
  have y1:aG (aT ys)=true:=bg
  have y2:(aT ys).view=aT ys:=bz
  generalize E6:aT ys=yv at *
  generalize aT s.es=kv at *
  cases hT:ji c.H c.sg.res c.V 1 s.nm ys t with
  |none=>
   simp only
   intro aa
   refine⟨c.V,Z9,qg,?_⟩
   rw[nt]
   rw[hT]at cF
   simp only[Option.isSome_none,kU]at cF
   generalize br s.bd=bv at *
   generalize br s.el=lv at *
   generalize (c.fail s.a).obj=o at *
   refine ax (sf:=ku) rfl rfl rfl ?_
   simp[-au,-ag,ku,kZ,en,e1,e2,b1,b2,l1,l2,vE,ze,cw,m1,m2,lg,cF,z9,af,AV.view,AV.an,AV.ah,aB,aN,bp,az]
  |some x=>
   obtain⟨r,W⟩:=x
   have lX:=lX r W hT
   subst lX
   rw[hT]at cF
   simp only[Option.isSome_some,kU]at cF
   have HC:({ c with V:=W }:CK)=c.bF W:=rfl
   rw[HC]at cF
   simp only[show ¬((1:Int)=5) from by decide,show ¬((1:Int)=6) from by decide,if_false]
   intro aa
   have yK:(Sm.mk 1 (bO 1 s.nm) (bh 1 s.on) (bn 1 s.od) ys [] [] s.a z).row=[.int .i64 1,.str s.nm,.str s.on,.int .i64 s.od,yv,.U,.U,.int .i64 s.a,.int .i64 z]:=by simp[Sm.row,Sm.rows,bO,bh,bn,E6]
   show _=some (AV.agg (Sm.mk 1 (bO 1 s.nm) (bh 1 s.on) (bn 1 s.od) ys [] [] s.a z).row,_)
   rw[yK]
   generalize br s.bd=bv at *
   generalize br s.el=lv at *
   generalize (c.bF W).obj=o at *
   refine ax (sf:=ku) rfl rfl rfl ?_
   simp[-au,-ag,ku,kZ,en,e1,e2,b1,b2,l1,l2,vE,ze,cw,m1,m2,y1,lg,cF,af,AV.view,AV.an,AV.ah,aB,aN,bp,az]
theorem X6 (c:CK)(s:Sm)(hf:c.fe=0)(hw:Way c)(dL:c.V.length+Sm.sz s<1000000000)(hk:s.k=2)(h:cY c.sg.has s.k s.es=true):xC c s:=by
 unfold xC
 have hz:=Sm.ni s
 have qH:=E.eW s.es
 have kZ:=λaa=>jz aa c s (by omega)
 rw[h]at kZ
 have en:=λwl aa st=>jG wl aa st
 have z9:=λaa=>dF aa c s.a []
 have lg:=λaa=>cu aa c []
 rw[decide_eq_true hf]at lg
 have nt:c.bF c.V=c:=rfl
 have cP:=Sm.aE s
 rw[hk]at cP
 rw[mE,h]
 rw[hk]at h ⊢
 simp only[if_true]
 rw[cP]at kZ ⊢
 have e1:aG (aT s.es)=true:=bg
 have e2:(aT s.es).view=aT s.es:=bz
 have b1:aG (br s.bd)=true:=bE
 have b2:(br s.bd).view=br s.bd:=bJ
 have l1:aG (br s.el)=true:=bE
 have l2:(br s.el).view=br s.el:=bJ
 have cw:=j9 c s.es hf (by omega) (λe he=>gx c hf hw e (by have:=E.iO he;omega))
 have th:vO c.H c.V 2 s.es=kG c.H c.V s.es:=qd (by decide)
 have ze:=λwl aa st=>wQ wl aa c.H.rs s.on s.od st hw.s.R
 have HB:iM c.H 2 s.on s.od=if (cH c.H.rs s.on s.od).2 then some (cH c.H.rs s.on s.od).1 else none:=if_pos (by decide)
 rw[HB]
 unfold VD at ze
 have hwt:=lN c.H.rs s.on s.od
 generalize cH c.H.rs s.on s.od=tt at *
 obtain⟨t,b⟩:=tt
 cases b with
 |false=>
  simp only[Bool.false_eq_true,if_false]
  intro aa
  refine⟨c.V,Z9,qg,?_⟩
  rw[nt]
  simp only at ze
  generalize aT s.es=ev at *
  generalize br s.bd=bv at *
  generalize br s.el=lv at *
  generalize (c.fail s.a).obj=o at *
  refine ax (sf:=ku) rfl rfl rfl ?_
  simp[-au,-ag,ku,kZ,en,e1,e2,b1,b2,l1,l2,vE,ze,z9,af,AV.view,AV.an,AV.ah,aB,aN,bp,az]
 |true=>
 simp only[if_true]
 simp only at ze
 rw[th]
 cases hv:kG c.H c.V s.es with
 |error a=>
  rw[hv]at cw
  simp only at cw ⊢
  intro aa
  refine⟨c.V,Z9,qg,?_⟩
  rw[nt]
  obtain⟨v,dA,ev⟩:=cw 1
  have CC:=bu dA
  have Mx:=cm dA
  have jx:=λaa=>cu aa (c.fail a) []
  rw[decide_eq_false iP]at jx
  generalize aT s.es=kv at *
  generalize br s.bd=bv at *
  generalize br s.el=lv at *
  generalize (c.fail a).obj=o at *
  refine ax (sf:=ku) rfl rfl rfl ?_
  simp[-au,-ag,ku,kZ,en,e1,e2,b1,b2,l1,l2,vE,ze,ev,dA,jx,af,AV.view,AV.an,AV.ah,aB,aN,bp,az]
 |ok ys=>
  rw[hv]at cw
  simp only at cw ⊢
  have nj:cY c.sg.has 2 ys=true:=lO hv h
  obtain⟨fv,⟨z,rfl,lX⟩,cF⟩:=n7 1 c 2 (bO 2 s.nm) (bh 2 s.on) (bn 2 s.od) ys s.a t hw.s nj
  simp only[lP]at lX cF
  have kj:(Sm.mk 2 (bO 2 s.nm) (bh 2 s.on) (bn 2 s.od) ys [] [] s.a 0).row=[.int .i64 2,.str s.nm,.str s.on,.int .i64 s.od,aT ys,.U,.U,.int .i64 s.a,.int .i64 0]:=by simp[Sm.row,Sm.rows,bO,bh,bn]
  rw[kj]at cF
  have m1:aG (b8 11 (E.rows ys))=true:=cV
  have m2:(b8 11 (E.rows ys)).view=aT ys:=rfl
  generalize b8 11 (E.rows ys)=mv at *
  have m3:=bu m1
  have m4:=cm m1
  have y1:aG (aT ys)=true:=bg
  have y2:(aT ys).view=aT ys:=bz
  generalize E6:aT ys=yv at *
  generalize aT s.es=kv at *
  cases hT:ji c.H c.sg.res c.V 2 s.nm ys t with
  |none=>
   simp only
   intro aa
   refine⟨c.V,Z9,qg,?_⟩
   rw[nt]
   rw[hT]at cF
   simp only[Option.isSome_none,kU]at cF
   generalize br s.bd=bv at *
   generalize br s.el=lv at *
   generalize (c.fail s.a).obj=o at *
   refine ax (sf:=ku) rfl rfl rfl ?_
   simp[-au,-ag,ku,kZ,en,e1,e2,b1,b2,l1,l2,vE,ze,cw,m1,m2,lg,cF,z9,af,AV.view,AV.an,AV.ah,aB,aN,bp,az]
  |some x=>
   obtain⟨r,W⟩:=x
   have lX:=lX r W hT
   subst lX
   rw[hT]at cF
   simp only[Option.isSome_some,kU]at cF
   have HC:({ c with V:=W }:CK)=c.bF W:=rfl
   rw[HC]at cF
   simp only[show ¬((2:Int)=5) from by decide,show ¬((2:Int)=6) from by decide,if_false]
   intro aa
   have yK:(Sm.mk 2 (bO 2 s.nm) (bh 2 s.on) (bn 2 s.od) ys [] [] s.a z).row=[.int .i64 2,.str s.nm,.str s.on,.int .i64 s.od,yv,.U,.U,.int .i64 s.a,.int .i64 z]:=by simp[Sm.row,Sm.rows,bO,bh,bn,E6]
   show _=some (AV.agg (Sm.mk 2 (bO 2 s.nm) (bh 2 s.on) (bn 2 s.od) ys [] [] s.a z).row,_)
   rw[yK]
   generalize br s.bd=bv at *
   generalize br s.el=lv at *
   generalize (c.bF W).obj=o at *
   refine ax (sf:=ku) rfl rfl rfl ?_
   simp[-au,-ag,ku,kZ,en,e1,e2,b1,b2,l1,l2,vE,ze,cw,m1,m2,y1,lg,cF,af,AV.view,AV.an,AV.ah,aB,aN,bp,az]
theorem X7 (c:CK)(s:Sm)(hf:c.fe=0)(hw:Way c)(dL:c.V.length+Sm.sz s<1000000000)(hk:s.k=3)(h:cY c.sg.has s.k s.es=true):xC c s:=by
 unfold xC
 have hz:=Sm.ni s
 have qH:=E.eW s.es
 have kZ:=λaa=>jz aa c s (by omega)
 rw[h]at kZ
 have en:=λwl aa st=>jG wl aa st
 have z9:=λaa=>dF aa c s.a []
 have lg:=λaa=>cu aa c []
 rw[decide_eq_true hf]at lg
 have nt:c.bF c.V=c:=rfl
 have cP:=Sm.aE s
 rw[hk]at cP
 rw[mE,h]
 rw[hk]at h ⊢
 simp only[if_true]
 rw[cP]at kZ ⊢
 have e1:aG (aT s.es)=true:=bg
 have e2:(aT s.es).view=aT s.es:=bz
 have b1:aG (br s.bd)=true:=bE
 have b2:(br s.bd).view=br s.bd:=bJ
 have l1:aG (br s.el)=true:=bE
 have l2:(br s.el).view=br s.el:=bJ
 have cw:=j9 c s.es hf (by omega) (λe he=>gx c hf hw e (by have:=E.iO he;omega))
 have th:vO c.H c.V 3 s.es=kG c.H c.V s.es:=qd (by decide)
 have HB:iM c.H 3 s.on s.od=some T0:=if_neg (by decide)
 rw[HB]
 simp only
 rw[th]
 cases hv:kG c.H c.V s.es with
 |error a=>
  rw[hv]at cw
  simp only at cw ⊢
  intro aa
  refine⟨c.V,Z9,qg,?_⟩
  rw[nt]
  obtain⟨v,dA,ev⟩:=cw 1
  have CC:=bu dA
  have Mx:=cm dA
  have jx:=λaa=>cu aa (c.fail a) []
  rw[decide_eq_false iP]at jx
  generalize aT s.es=kv at *
  generalize br s.bd=bv at *
  generalize br s.el=lv at *
  generalize (c.fail a).obj=o at *
  refine ax (sf:=ku) rfl rfl rfl ?_
  simp[-au,-ag,ku,kZ,en,e1,e2,b1,b2,l1,l2,ev,dA,jx,af,AV.view,AV.an,AV.ah,aN,bp]
 |ok ys=>
  rw[hv]at cw
  simp only at cw ⊢
  have nj:cY c.sg.has 3 ys=true:=lO hv h
  obtain⟨fv,⟨z,rfl,lX⟩,cF⟩:=n7 1 c 3 (bO 3 s.nm) (bh 3 s.on) (bn 3 s.od) ys s.a T0 hw.s nj
  simp only[lP]at lX cF
  have kj:(Sm.mk 3 (bO 3 s.nm) (bh 3 s.on) (bn 3 s.od) ys [] [] s.a 0).row=[.int .i64 3,.str s.nm,.str [],.int .i64 0,aT ys,.U,.U,.int .i64 s.a,.int .i64 0]:=by simp[Sm.row,Sm.rows,bO,bh,bn]
  rw[kj]at cF
  have m1:aG (b8 11 (E.rows ys))=true:=cV
  have m2:(b8 11 (E.rows ys)).view=aT ys:=rfl
  generalize b8 11 (E.rows ys)=mv at *
  have m3:=bu m1
  have m4:=cm m1
  have y1:aG (aT ys)=true:=bg
  have y2:(aT ys).view=aT ys:=bz
  generalize E6:aT ys=yv at *
  generalize aT s.es=kv at *
  cases hT:ji c.H c.sg.res c.V 3 s.nm ys T0 with
  |none=>
   simp only
   intro aa
   refine⟨c.V,Z9,qg,?_⟩
   rw[nt]
   rw[hT]at cF
   simp only[Option.isSome_none,kU]at cF
   generalize br s.bd=bv at *
   generalize br s.el=lv at *
   generalize (c.fail s.a).obj=o at *
   refine ax (sf:=ku) rfl rfl rfl ?_
   simp[-au,-ag,ku,kZ,en,e1,e2,b1,b2,l1,l2,cw,m1,m2,lg,cF,z9,af,AV.view,AV.an,AV.ah,aN,bp]
  |some x=>
   obtain⟨r,W⟩:=x
   have lX:=lX r W hT
   subst lX
   rw[hT]at cF
   simp only[Option.isSome_some,kU]at cF
   have HC:({ c with V:=W }:CK)=c.bF W:=rfl
   rw[HC]at cF
   simp only[show ¬((3:Int)=5) from by decide,show ¬((3:Int)=6) from by decide,if_false]
   intro aa
   have yK:(Sm.mk 3 (bO 3 s.nm) (bh 3 s.on) (bn 3 s.od) ys [] [] s.a z).row=[.int .i64 3,.str s.nm,.str [],.int .i64 0,yv,.U,.U,.int .i64 s.a,.int .i64 z]:=by simp[Sm.row,Sm.rows,bO,bh,bn,E6]
   show _=some (AV.agg (Sm.mk 3 (bO 3 s.nm) (bh 3 s.on) (bn 3 s.od) ys [] [] s.a z).row,_)
   rw[yK]
   generalize br s.bd=bv at *
   generalize br s.el=lv at *
   generalize (c.bF W).obj=o at *
   refine ax (sf:=ku) rfl rfl rfl ?_
   simp[-au,-ag,ku,kZ,en,e1,e2,b1,b2,l1,l2,cw,m1,m2,y1,lg,cF,af,AV.view,AV.an,AV.ah,aN,bp]
theorem X8 (c:CK)(s:Sm)(hf:c.fe=0)(hw:Way c)(dL:c.V.length+Sm.sz s<1000000000)(hk:s.k=4)(h:cY c.sg.has s.k s.es=true):xC c s:=by
 unfold xC
 have hz:=Sm.ni s
 have qH:=E.eW s.es
 have kZ:=λaa=>jz aa c s (by omega)
 rw[h]at kZ
 have en:=λwl aa st=>jG wl aa st
 have z9:=λaa=>dF aa c s.a []
 have lg:=λaa=>cu aa c []
 rw[decide_eq_true hf]at lg
 have nt:c.bF c.V=c:=rfl
 have cP:=Sm.aE s
 rw[hk]at cP
 rw[mE,h]
 rw[hk]at h ⊢
 simp only[if_true]
 rw[cP]at kZ ⊢
 have e1:aG (aT s.es)=true:=bg
 have e2:(aT s.es).view=aT s.es:=bz
 have b1:aG (br s.bd)=true:=bE
 have b2:(br s.bd).view=br s.bd:=bJ
 have l1:aG (br s.el)=true:=bE
 have l2:(br s.el).view=br s.el:=bJ
 have cw:=j9 c s.es hf (by omega) (λe he=>gx c hf hw e (by have:=E.iO he;omega))
 have th:vO c.H c.V 4 s.es=kG c.H c.V s.es:=qd (by decide)
 have HB:iM c.H 4 s.on s.od=some T0:=if_neg (by decide)
 rw[HB]
 simp only
 rw[th]
 cases hv:kG c.H c.V s.es with
 |error a=>
  rw[hv]at cw
  simp only at cw ⊢
  intro aa
  refine⟨c.V,Z9,qg,?_⟩
  rw[nt]
  obtain⟨v,dA,ev⟩:=cw 1
  have CC:=bu dA
  have Mx:=cm dA
  have jx:=λaa=>cu aa (c.fail a) []
  rw[decide_eq_false iP]at jx
  generalize aT s.es=kv at *
  generalize br s.bd=bv at *
  generalize br s.el=lv at *
  generalize (c.fail a).obj=o at *
  refine ax (sf:=ku) rfl rfl rfl ?_
  simp[-au,-ag,ku,kZ,en,e1,e2,b1,b2,l1,l2,ev,dA,jx,af,AV.view,AV.an,AV.ah,aN,bp]
 |ok ys=>
  rw[hv]at cw
  simp only at cw ⊢
  have nj:cY c.sg.has 4 ys=true:=lO hv h
  obtain⟨fv,⟨z,rfl,lX⟩,cF⟩:=n7 1 c 4 (bO 4 s.nm) (bh 4 s.on) (bn 4 s.od) ys s.a T0 hw.s nj
  simp only[lP]at lX cF
  have kj:(Sm.mk 4 (bO 4 s.nm) (bh 4 s.on) (bn 4 s.od) ys [] [] s.a 0).row=[.int .i64 4,.str [],.str [],.int .i64 0,aT ys,.U,.U,.int .i64 s.a,.int .i64 0]:=by simp[Sm.row,Sm.rows,bO,bh,bn]
  rw[kj]at cF
  have m1:aG (b8 11 (E.rows ys))=true:=cV
  have m2:(b8 11 (E.rows ys)).view=aT ys:=rfl
  generalize b8 11 (E.rows ys)=mv at *
  have m3:=bu m1
  have m4:=cm m1
  have y1:aG (aT ys)=true:=bg
  have y2:(aT ys).view=aT ys:=bz
  generalize E6:aT ys=yv at *
  generalize aT s.es=kv at *
  cases hT:ji c.H c.sg.res c.V 4 s.nm ys T0 with
  |none=>
   simp only
   intro aa
   refine⟨c.V,Z9,qg,?_⟩
   rw[nt]
   rw[hT]at cF
   simp only[Option.isSome_none,kU]at cF
   generalize br s.bd=bv at *
   generalize br s.el=lv at *
   generalize (c.fail s.a).obj=o at *
   refine ax (sf:=ku) rfl rfl rfl ?_
   simp[-au,-ag,ku,kZ,en,e1,e2,b1,b2,l1,l2,cw,m1,m2,lg,cF,z9,af,AV.view,AV.an,AV.ah,aN,bp]
  |some x=>
   obtain⟨r,W⟩:=x
   have lX:=lX r W hT
   subst lX
   rw[hT]at cF
   simp only[Option.isSome_some,kU]at cF
   have HC:({ c with V:=W }:CK)=c.bF W:=rfl
   rw[HC]at cF
   simp only[show ¬((4:Int)=5) from by decide,show ¬((4:Int)=6) from by decide,if_false]
   intro aa
   have yK:(Sm.mk 4 (bO 4 s.nm) (bh 4 s.on) (bn 4 s.od) ys [] [] s.a z).row=[.int .i64 4,.str [],.str [],.int .i64 0,yv,.U,.U,.int .i64 s.a,.int .i64 z]:=by simp[Sm.row,Sm.rows,bO,bh,bn,E6]
   show _=some (AV.agg (Sm.mk 4 (bO 4 s.nm) (bh 4 s.on) (bn 4 s.od) ys [] [] s.a z).row,_)
   rw[yK]
   generalize br s.bd=bv at *
   generalize br s.el=lv at *
   generalize (c.bF W).obj=o at *
   refine ax (sf:=ku) rfl rfl rfl ?_
   simp[-au,-ag,ku,kZ,en,e1,e2,b1,b2,l1,l2,cw,m1,m2,y1,lg,cF,af,AV.view,AV.an,AV.ah,aN,bp]
end K9
namespace K9
open Ax Go cp V7 j4 k8
theorem X9 (c:CK)(s:Sm)(hf:c.fe=0)(hw:Way c)(dL:c.V.length+Sm.sz s<1000000000)(hk:s.k=5)(h:cY c.sg.has s.k s.es=true)(B2:∀d:CK,d.H=c.H->d.sg=c.sg->d.fe=0->Way d->d.V.length+Sm.dG s.bd<1000000000->JA d s.bd)(MB:∀d:CK,d.H=c.H->d.sg=c.sg->d.fe=0->Way d->d.V.length+Sm.dG s.el<1000000000->JA d s.el):xC c s:=by
 unfold xC
 have hz:=Sm.ni s
 have qH:=E.eW s.es
 have kZ:=λaa=>jz aa c s (by omega)
 rw[h]at kZ
 have en:=λwl aa st=>jG wl aa st
 have z9:=λaa=>dF aa c s.a []
 have lg:=λaa=>cu aa c []
 rw[decide_eq_true hf]at lg
 have nt:c.bF c.V=c:=rfl
 have cP:=Sm.aE s
 rw[hk]at cP
 rw[mE,h]
 rw[hk]at h ⊢
 simp only[if_true]
 rw[cP]at kZ ⊢
 have e1:aG (aT s.es)=true:=bg
 have e2:(aT s.es).view=aT s.es:=bz
 have b1:aG (br s.bd)=true:=bE
 have b2:(br s.bd).view=br s.bd:=bJ
 have l1:aG (br s.el)=true:=bE
 have l2:(br s.el).view=br s.el:=bJ
 have cw:=j9 c s.es hf (by omega) (λe he=>gx c hf hw e (by have:=E.iO he;omega))
 have th:vO c.H c.V 5 s.es=kG c.H c.V s.es:=qd (by decide)
 have HB:iM c.H 5 s.on s.od=some T0:=if_neg (by decide)
 rw[HB]
 simp only
 rw[th]
 cases hv:kG c.H c.V s.es with
 |error a=>
  rw[hv]at cw
  simp only at cw ⊢
  intro aa
  refine⟨c.V,Z9,qg,?_⟩
  rw[nt]
  obtain⟨v,dA,ev⟩:=cw 1
  have CC:=bu dA
  have Mx:=cm dA
  have jx:=λaa=>cu aa (c.fail a) []
  rw[decide_eq_false iP]at jx
  generalize aT s.es=kv at *
  generalize br s.bd=bv at *
  generalize br s.el=lv at *
  generalize (c.fail a).obj=o at *
  refine ax (sf:=ku) rfl rfl rfl ?_
  simp[-au,-ag,ku,kZ,en,e1,e2,b1,b2,l1,l2,ev,dA,jx,af,AV.view,AV.an,AV.ah,aN,bp]
 |ok ys=>
  rw[hv]at cw
  simp only at cw ⊢
  have nj:cY c.sg.has 5 ys=true:=lO hv h
  obtain⟨fv,⟨z,rfl,lX⟩,cF⟩:=n7 1 c 5 (bO 5 s.nm) (bh 5 s.on) (bn 5 s.od) ys s.a T0 hw.s nj
  simp only[lP]at lX cF
  have kj:(Sm.mk 5 (bO 5 s.nm) (bh 5 s.on) (bn 5 s.od) ys [] [] s.a 0).row=[.int .i64 5,.str [],.str [],.int .i64 0,aT ys,.U,.U,.int .i64 s.a,.int .i64 0]:=by simp[Sm.row,Sm.rows,bO,bh,bn]
  rw[kj]at cF
  have m1:aG (b8 11 (E.rows ys))=true:=cV
  have m2:(b8 11 (E.rows ys)).view=aT ys:=rfl
  generalize b8 11 (E.rows ys)=mv at *
  have m3:=bu m1
  have m4:=cm m1
  have y1:aG (aT ys)=true:=bg
  have y2:(aT ys).view=aT ys:=bz
  generalize E6:aT ys=yv at *
  generalize aT s.es=kv at *
  cases hT:ji c.H c.sg.res c.V 5 s.nm ys T0 with
  |none=>
   simp only
   intro aa
   refine⟨c.V,Z9,qg,?_⟩
   rw[nt]
   rw[hT]at cF
   simp only[Option.isSome_none,kU]at cF
   generalize br s.bd=bv at *
   generalize br s.el=lv at *
   generalize (c.fail s.a).obj=o at *
   refine ax (sf:=ku) rfl rfl rfl ?_
   simp[-au,-ag,ku,kZ,en,e1,e2,b1,b2,l1,l2,cw,m1,m2,lg,cF,z9,af,AV.view,AV.an,AV.ah,aN,bp]
  |some x=>
   obtain⟨r,W⟩:=x
   have lX:=lX r W hT
   subst lX
   rw[hT]at cF
   simp only[Option.isSome_some,kU]at cF
   have HC:({ c with V:=W }:CK)=c.bF W:=rfl
   rw[HC]at cF
   have hfw:=G5 hT
   have VG:W=c.V:=by
    rcases hfw with e|⟨e,_⟩
    ·exact e
    ·rcases e with e|e<;>cases e
   have hwW:Way (c.bF W):=by rw[VG];exact hw
   have RX:=Sm.eW s.bd
   have hll:=Sm.eW s.el
   have hB:=B2 (c.bF W) rfl rfl hf hwW (by show W.length+_<_;rw[VG];omega)
   unfold JA at hB
   have JG:j6 (c.bF W).H (c.bF W).sg.has (c.bF W).sg.res (c.bF W).V s.bd=j6 c.H c.sg.has c.sg.res W s.bd:=rfl
   rw[JG]at hB
   dsimp only
   cases hb:j6 c.H c.sg.has c.sg.res W s.bd with
   |error a=>
    rw[hb]at hB
    simp only at hB ⊢
    intro aa
    obtain⟨W',v,v1,ev⟩:=hB 1
    have wW:(c.bF W).bF W'=c.bF W':=rfl
    rw[wW]at ev
    have v3:=bu v1
    have v4:=cm v1
    have v5:aG v.view=true:=by rw[qy];exact v1
    have eB:=λaa=>DG aa ((c.bF W').fail a) s.el iP (by omega)
    refine⟨W',[.int .i64 5,.str [],.str [],.int .i64 0,yv,v.view,.U,.int .i64 s.a,.int .i64 z],⟨_,_,_,_,_,_,_,_,_,rfl,y1,v5,rfl⟩,?_⟩
    generalize br s.bd=bv at *
    generalize br s.el=lv at *
    generalize (c.bF W).obj=o at *
    generalize ((c.bF W').fail a).obj=o2 at *
    refine ax (sf:=ku) rfl rfl rfl ?_
    simp[-au,-ag,ku,kZ,en,e1,e2,b1,b2,l1,l2,cw,m1,m2,y1,lg,cF,ev,v1,v5,eB,af,AV.view,AV.an,AV.ah,aN,bp]
   |ok x=>
    obtain⟨bs,W1⟩:=x
    rw[hb]at hB
    simp only at hB ⊢
    have wW:(c.bF W).bF W1=c.bF W1:=rfl
    rw[wW]at hB
    have q1:aG (b8 9 (Sm.rows bs))=true:=cV
    have q2:(b8 9 (Sm.rows bs)).view=br bs:=rfl
    have q3:=bu q1
    have q4:=cm q1
    have q5:aG (br bs)=true:=bE
    obtain⟨w1,w2⟩:=P2 (by rw[VG];exact hw.V) hb
    have ahy:Way (c.bF W1):=E4 hw w1 (by rw[VG]at w2;omega)
    have hL:=MB (c.bF W1) rfl rfl hf ahy (by show W1.length+_<_;rw[VG]at w2;omega)
    unfold JA at hL
    have JG:j6 (c.bF W1).H (c.bF W1).sg.has (c.bF W1).sg.res (c.bF W1).V s.el=j6 c.H c.sg.has c.sg.res W1 s.el:=rfl
    rw[JG]at hL
    generalize b8 9 (Sm.rows bs)=mb at *
    cases hc:j6 c.H c.sg.has c.sg.res W1 s.el with
    |error a=>
     rw[hc]at hL
     simp only at hL ⊢
     intro aa
     obtain⟨W',v,v1,ev⟩:=hL 1
     have wW:(c.bF W1).bF W'=c.bF W':=rfl
     rw[wW]at ev
     have v3:=bu v1
     have v4:=cm v1
     have v5:aG v.view=true:=by rw[qy];exact v1
     refine⟨W',[.int .i64 5,.str [],.str [],.int .i64 0,yv,br bs,v.view,.int .i64 s.a,.int .i64 z],⟨_,_,_,_,_,_,_,_,_,rfl,y1,q5,v5⟩,?_⟩
     generalize br bs=bsv at *
     generalize br s.bd=bv at *
     generalize br s.el=lv at *
     generalize (c.bF W).obj=o at *
     generalize (c.bF W1).obj=o2 at *
     generalize ((c.bF W').fail a).obj=o3 at *
     refine ax (sf:=ku) rfl rfl rfl ?_
     simp[-au,-ag,ku,kZ,en,e1,e2,b1,b2,l1,l2,cw,m1,m2,y1,lg,cF,hB,ev,v1,v5,q1,q2,q5,af,AV.view,AV.an,AV.ah,aN,bp]
    |ok x=>
     obtain⟨ls,W2⟩:=x
     rw[hc]at hL
     simp only at hL ⊢
     have wW:(c.bF W1).bF W2=c.bF W2:=rfl
     rw[wW]at hL
     have p1:aG (b8 9 (Sm.rows ls))=true:=cV
     have p2:(b8 9 (Sm.rows ls)).view=br ls:=rfl
     have p3:=bu p1
     have p4:=cm p1
     have p5:aG (br ls)=true:=bE
     intro aa
     have yK:(Sm.mk 5 (bO 5 s.nm) (bh 5 s.on) (bn 5 s.od) ys bs ls s.a z).row=[.int .i64 5,.str [],.str [],.int .i64 0,yv,br bs,br ls,.int .i64 s.a,.int .i64 z]:=by simp[Sm.row,bO,bh,bn,E6,br]
     show _=some (AV.agg (Sm.mk 5 (bO 5 s.nm) (bh 5 s.on) (bn 5 s.od) ys bs ls s.a z).row,_)
     rw[yK]
     generalize b8 9 (Sm.rows ls)=ml at *
     generalize br bs=bsv at *
     generalize br ls=lsv at *
     generalize br s.bd=bv at *
     generalize br s.el=lv at *
     generalize (c.bF W).obj=o at *
     generalize (c.bF W1).obj=o2 at *
     generalize (c.bF W2).obj=o3 at *
     refine ax (sf:=ku) rfl rfl rfl ?_
     simp[-au,-ag,ku,kZ,en,e1,e2,b1,b2,l1,l2,cw,m1,m2,y1,lg,cF,hB,hL,q1,q2,q5,p1,p2,p5,af,AV.view,AV.an,AV.ah,aN,bp]
theorem Ya (c:CK)(s:Sm)(hf:c.fe=0)(hw:Way c)(dL:c.V.length+Sm.sz s<1000000000)(hk:s.k=6)(h:cY c.sg.has s.k s.es=true)(B2:∀d:CK,d.H=c.H->d.sg=c.sg->d.fe=0->Way d->d.V.length+Sm.dG s.bd<1000000000->JA d s.bd):xC c s:=by
 unfold xC
 have hz:=Sm.ni s
 have qH:=E.eW s.es
 have kZ:=λaa=>jz aa c s (by omega)
 rw[h]at kZ
 have en:=λwl aa st=>jG wl aa st
 have z9:=λaa=>dF aa c s.a []
 have lg:=λaa=>cu aa c []
 rw[decide_eq_true hf]at lg
 have nt:c.bF c.V=c:=rfl
 have cP:=Sm.aE s
 rw[hk]at cP
 rw[mE,h]
 rw[hk]at h ⊢
 simp only[if_true]
 rw[cP]at kZ ⊢
 have e1:aG (aT s.es)=true:=bg
 have e2:(aT s.es).view=aT s.es:=bz
 have b1:aG (br s.bd)=true:=bE
 have b2:(br s.bd).view=br s.bd:=bJ
 have l1:aG (br s.el)=true:=bE
 have l2:(br s.el).view=br s.el:=bJ
 have cw:=j9 c s.es hf (by omega) (λe he=>gx c hf hw e (by have:=E.iO he;omega))
 have th:vO c.H c.V 6 s.es=kG c.H c.V s.es:=qd (by decide)
 have HB:iM c.H 6 s.on s.od=some T0:=if_neg (by decide)
 rw[HB]
 simp only
 rw[th]
 cases hv:kG c.H c.V s.es with
 |error a=>
  rw[hv]at cw
  simp only at cw ⊢
  intro aa
  refine⟨c.V,Z9,qg,?_⟩
  rw[nt]
  obtain⟨v,dA,ev⟩:=cw 1
  have CC:=bu dA
  have Mx:=cm dA
  have jx:=λaa=>cu aa (c.fail a) []
  rw[decide_eq_false iP]at jx
  generalize aT s.es=kv at *
  generalize br s.bd=bv at *
  generalize br s.el=lv at *
  generalize (c.fail a).obj=o at *
  refine ax (sf:=ku) rfl rfl rfl ?_
  simp[-au,-ag,ku,kZ,en,e1,e2,b1,b2,l1,l2,ev,dA,jx,af,AV.view,AV.an,AV.ah,aN,bp]
 |ok ys=>
  rw[hv]at cw
  simp only at cw ⊢
  have nj:cY c.sg.has 6 ys=true:=lO hv h
  obtain⟨fv,⟨z,rfl,lX⟩,cF⟩:=n7 1 c 6 (bO 6 s.nm) (bh 6 s.on) (bn 6 s.od) ys s.a T0 hw.s nj
  simp only[lP]at lX cF
  have kj:(Sm.mk 6 (bO 6 s.nm) (bh 6 s.on) (bn 6 s.od) ys [] [] s.a 0).row=[.int .i64 6,.str [],.str [],.int .i64 0,aT ys,.U,.U,.int .i64 s.a,.int .i64 0]:=by simp[Sm.row,Sm.rows,bO,bh,bn]
  rw[kj]at cF
  have m1:aG (b8 11 (E.rows ys))=true:=cV
  have m2:(b8 11 (E.rows ys)).view=aT ys:=rfl
  generalize b8 11 (E.rows ys)=mv at *
  have m3:=bu m1
  have m4:=cm m1
  have y1:aG (aT ys)=true:=bg
  have y2:(aT ys).view=aT ys:=bz
  generalize E6:aT ys=yv at *
  generalize aT s.es=kv at *
  cases hT:ji c.H c.sg.res c.V 6 s.nm ys T0 with
  |none=>
   simp only
   intro aa
   refine⟨c.V,Z9,qg,?_⟩
   rw[nt]
   rw[hT]at cF
   simp only[Option.isSome_none,kU]at cF
   generalize br s.bd=bv at *
   generalize br s.el=lv at *
   generalize (c.fail s.a).obj=o at *
   refine ax (sf:=ku) rfl rfl rfl ?_
   simp[-au,-ag,ku,kZ,en,e1,e2,b1,b2,l1,l2,cw,m1,m2,lg,cF,z9,af,AV.view,AV.an,AV.ah,aN,bp]
  |some x=>
   obtain⟨r,W⟩:=x
   have lX:=lX r W hT
   subst lX
   rw[hT]at cF
   simp only[Option.isSome_some,kU]at cF
   have HC:({ c with V:=W }:CK)=c.bF W:=rfl
   rw[HC]at cF
   have hfw:=G5 hT
   have VG:W=c.V:=by
    rcases hfw with e|⟨e,_⟩
    ·exact e
    ·rcases e with e|e<;>cases e
   have hwW:Way (c.bF W):=by rw[VG];exact hw
   have RX:=Sm.eW s.bd
   have hll:=Sm.eW s.el
   have hB:=B2 (c.bF W) rfl rfl hf hwW (by show W.length+_<_;rw[VG];omega)
   unfold JA at hB
   have JG:j6 (c.bF W).H (c.bF W).sg.has (c.bF W).sg.res (c.bF W).V s.bd=j6 c.H c.sg.has c.sg.res W s.bd:=rfl
   rw[JG]at hB
   simp only[show ¬((6:Int)=5) from by decide,if_false]
   cases hb:j6 c.H c.sg.has c.sg.res W s.bd with
   |error a=>
    rw[hb]at hB
    simp only at hB ⊢
    intro aa
    obtain⟨W',v,v1,ev⟩:=hB 1
    have wW:(c.bF W).bF W'=c.bF W':=rfl
    rw[wW]at ev
    have v3:=bu v1
    have v4:=cm v1
    have v5:aG v.view=true:=by rw[qy];exact v1
    have eB:=λaa=>DG aa ((c.bF W').fail a) s.el iP (by omega)
    refine⟨W',[.int .i64 6,.str [],.str [],.int .i64 0,yv,v.view,.U,.int .i64 s.a,.int .i64 z],⟨_,_,_,_,_,_,_,_,_,rfl,y1,v5,rfl⟩,?_⟩
    generalize br s.bd=bv at *
    generalize br s.el=lv at *
    generalize (c.bF W).obj=o at *
    generalize ((c.bF W').fail a).obj=o2 at *
    refine ax (sf:=ku) rfl rfl rfl ?_
    simp[-au,-ag,ku,kZ,en,e1,e2,b1,b2,l1,l2,cw,m1,m2,y1,lg,cF,ev,v1,v5,af,AV.view,AV.an,AV.ah,aN,bp]
   |ok x=>
    obtain⟨bs,W1⟩:=x
    rw[hb]at hB
    simp only at hB ⊢
    have wW:(c.bF W).bF W1=c.bF W1:=rfl
    rw[wW]at hB
    have q1:aG (b8 9 (Sm.rows bs))=true:=cV
    have q2:(b8 9 (Sm.rows bs)).view=br bs:=rfl
    have q3:=bu q1
    have q4:=cm q1
    have q5:aG (br bs)=true:=bE
    intro aa
    have yK:(Sm.mk 6 (bO 6 s.nm) (bh 6 s.on) (bn 6 s.od) ys bs [] s.a z).row=[.int .i64 6,.str [],.str [],.int .i64 0,yv,br bs,.U,.int .i64 s.a,.int .i64 z]:=by simp[Sm.row,Sm.rows,bO,bh,bn,E6,br]
    show _=some (AV.agg (Sm.mk 6 (bO 6 s.nm) (bh 6 s.on) (bn 6 s.od) ys bs [] s.a z).row,_)
    rw[yK]
    generalize b8 9 (Sm.rows bs)=mb at *
    generalize br bs=bsv at *
    generalize br s.bd=bv at *
    generalize br s.el=lv at *
    generalize (c.bF W).obj=o at *
    generalize (c.bF W1).obj=o2 at *
    refine ax (sf:=ku) rfl rfl rfl ?_
    simp[-au,-ag,ku,kZ,en,e1,e2,b1,b2,l1,l2,cw,m1,m2,y1,lg,cF,hB,q1,q2,q5,af,AV.view,AV.an,AV.ah,aN,bp]
theorem Yb (c:CK)(s:Sm)(hf:c.fe=0)(hw:Way c)(dL:c.V.length+Sm.sz s<1000000000)(hk:s.k=7)(h:cY c.sg.has s.k s.es=true):xC c s:=by
 unfold xC
 have hz:=Sm.ni s
 have qH:=E.eW s.es
 have kZ:=λaa=>jz aa c s (by omega)
 rw[h]at kZ
 have en:=λwl aa st=>jG wl aa st
 have z9:=λaa=>dF aa c s.a []
 have lg:=λaa=>cu aa c []
 rw[decide_eq_true hf]at lg
 have nt:c.bF c.V=c:=rfl
 have cP:=Sm.aE s
 rw[hk]at cP
 rw[mE,h]
 rw[hk]at h ⊢
 simp only[if_true]
 rw[cP]at kZ ⊢
 have e1:aG (aT s.es)=true:=bg
 have e2:(aT s.es).view=aT s.es:=bz
 have b1:aG (br s.bd)=true:=bE
 have b2:(br s.bd).view=br s.bd:=bJ
 have l1:aG (br s.el)=true:=bE
 have l2:(br s.el).view=br s.el:=bJ
 have cw:=j9 c s.es hf (by omega) (λe he=>gx c hf hw e (by have:=E.iO he;omega))
 have th:vO c.H c.V 7 s.es=kG c.H c.V s.es:=qd (by decide)
 have HB:iM c.H 7 s.on s.od=some T0:=if_neg (by decide)
 rw[HB]
 simp only
 rw[th]
 cases hv:kG c.H c.V s.es with
 |error a=>
  rw[hv]at cw
  simp only at cw ⊢
  intro aa
  refine⟨c.V,Z9,qg,?_⟩
  rw[nt]
  obtain⟨v,dA,ev⟩:=cw 1
  have CC:=bu dA
  have Mx:=cm dA
  have jx:=λaa=>cu aa (c.fail a) []
  rw[decide_eq_false iP]at jx
  generalize aT s.es=kv at *
  generalize br s.bd=bv at *
  generalize br s.el=lv at *
  generalize (c.fail a).obj=o at *
  refine ax (sf:=ku) rfl rfl rfl ?_
  simp[-au,-ag,ku,kZ,en,e1,e2,b1,b2,l1,l2,ev,dA,jx,af,AV.view,AV.an,AV.ah,aN,bp]
 |ok ys=>
  rw[hv]at cw
  simp only at cw ⊢
  have nj:cY c.sg.has 7 ys=true:=lO hv h
  obtain⟨fv,⟨z,rfl,lX⟩,cF⟩:=n7 1 c 7 (bO 7 s.nm) (bh 7 s.on) (bn 7 s.od) ys s.a T0 hw.s nj
  simp only[lP]at lX cF
  have kj:(Sm.mk 7 (bO 7 s.nm) (bh 7 s.on) (bn 7 s.od) ys [] [] s.a 0).row=[.int .i64 7,.str [],.str [],.int .i64 0,aT ys,.U,.U,.int .i64 s.a,.int .i64 0]:=by simp[Sm.row,Sm.rows,bO,bh,bn]
  rw[kj]at cF
  have m1:aG (b8 11 (E.rows ys))=true:=cV
  have m2:(b8 11 (E.rows ys)).view=aT ys:=rfl
  generalize b8 11 (E.rows ys)=mv at *
  have m3:=bu m1
  have m4:=cm m1
  have y1:aG (aT ys)=true:=bg
  have y2:(aT ys).view=aT ys:=bz
  generalize E6:aT ys=yv at *
  generalize aT s.es=kv at *
  cases hT:ji c.H c.sg.res c.V 7 s.nm ys T0 with
  |none=>
   simp only
   intro aa
   refine⟨c.V,Z9,qg,?_⟩
   rw[nt]
   rw[hT]at cF
   simp only[Option.isSome_none,kU]at cF
   generalize br s.bd=bv at *
   generalize br s.el=lv at *
   generalize (c.fail s.a).obj=o at *
   refine ax (sf:=ku) rfl rfl rfl ?_
   simp[-au,-ag,ku,kZ,en,e1,e2,b1,b2,l1,l2,cw,m1,m2,lg,cF,z9,af,AV.view,AV.an,AV.ah,aN,bp]
  |some x=>
   obtain⟨r,W⟩:=x
   have lX:=lX r W hT
   subst lX
   rw[hT]at cF
   simp only[Option.isSome_some,kU]at cF
   have HC:({ c with V:=W }:CK)=c.bF W:=rfl
   rw[HC]at cF
   simp only[show ¬((7:Int)=5) from by decide,show ¬((7:Int)=6) from by decide,if_false]
   intro aa
   have yK:(Sm.mk 7 (bO 7 s.nm) (bh 7 s.on) (bn 7 s.od) ys [] [] s.a z).row=[.int .i64 7,.str [],.str [],.int .i64 0,yv,.U,.U,.int .i64 s.a,.int .i64 z]:=by simp[Sm.row,Sm.rows,bO,bh,bn,E6]
   show _=some (AV.agg (Sm.mk 7 (bO 7 s.nm) (bh 7 s.on) (bn 7 s.od) ys [] [] s.a z).row,_)
   rw[yK]
   generalize br s.bd=bv at *
   generalize br s.el=lv at *
   generalize (c.bF W).obj=o at *
   refine ax (sf:=ku) rfl rfl rfl ?_
   simp[-au,-ag,ku,kZ,en,e1,e2,b1,b2,l1,l2,cw,m1,m2,y1,lg,cF,af,AV.view,AV.an,AV.ah,aN,bp]
theorem Yc (c:CK)(s:Sm)(hf:c.fe=0)(hw:Way c)(dL:c.V.length+Sm.sz s<1000000000)(hk:s.k=8)(h:cY c.sg.has s.k s.es=true):xC c s:=by
 unfold xC
 have hz:=Sm.ni s
 have qH:=E.eW s.es
 have kZ:=λaa=>jz aa c s (by omega)
 rw[h]at kZ
 have en:=λwl aa st=>jG wl aa st
 have z9:=λaa=>dF aa c s.a []
 have lg:=λaa=>cu aa c []
 rw[decide_eq_true hf]at lg
 have nt:c.bF c.V=c:=rfl
 have cP:=Sm.aE s
 rw[hk]at cP
 rw[mE,h]
 rw[hk]at h ⊢
 simp only[if_true]
 rw[cP]at kZ ⊢
 have e1:aG (aT s.es)=true:=bg
 have e2:(aT s.es).view=aT s.es:=bz
 have b1:aG (br s.bd)=true:=bE
 have b2:(br s.bd).view=br s.bd:=bJ
 have l1:aG (br s.el)=true:=bE
 have l2:(br s.el).view=br s.el:=bJ
 have cw:=j9 c s.es hf (by omega) (λe he=>gx c hf hw e (by have:=E.iO he;omega))
 have th:vO c.H c.V 8 s.es=kG c.H c.V s.es:=qd (by decide)
 have HB:iM c.H 8 s.on s.od=some T0:=if_neg (by decide)
 rw[HB]
 simp only
 rw[th]
 cases hv:kG c.H c.V s.es with
 |error a=>
  rw[hv]at cw
  simp only at cw ⊢
  intro aa
  refine⟨c.V,Z9,qg,?_⟩
  rw[nt]
  obtain⟨v,dA,ev⟩:=cw 1
  have CC:=bu dA
  have Mx:=cm dA
  have jx:=λaa=>cu aa (c.fail a) []
  rw[decide_eq_false iP]at jx
  generalize aT s.es=kv at *
  generalize br s.bd=bv at *
  generalize br s.el=lv at *
  generalize (c.fail a).obj=o at *
  refine ax (sf:=ku) rfl rfl rfl ?_
  simp[-au,-ag,ku,kZ,en,e1,e2,b1,b2,l1,l2,ev,dA,jx,af,AV.view,AV.an,AV.ah,aN,bp]
 |ok ys=>
  rw[hv]at cw
  simp only at cw ⊢
  have nj:cY c.sg.has 8 ys=true:=lO hv h
  obtain⟨fv,⟨z,rfl,lX⟩,cF⟩:=n7 1 c 8 (bO 8 s.nm) (bh 8 s.on) (bn 8 s.od) ys s.a T0 hw.s nj
  simp only[lP]at lX cF
  have kj:(Sm.mk 8 (bO 8 s.nm) (bh 8 s.on) (bn 8 s.od) ys [] [] s.a 0).row=[.int .i64 8,.str [],.str [],.int .i64 0,aT ys,.U,.U,.int .i64 s.a,.int .i64 0]:=by simp[Sm.row,Sm.rows,bO,bh,bn]
  rw[kj]at cF
  have m1:aG (b8 11 (E.rows ys))=true:=cV
  have m2:(b8 11 (E.rows ys)).view=aT ys:=rfl
  generalize b8 11 (E.rows ys)=mv at *
  have m3:=bu m1
  have m4:=cm m1
  have y1:aG (aT ys)=true:=bg
  have y2:(aT ys).view=aT ys:=bz
  generalize E6:aT ys=yv at *
  generalize aT s.es=kv at *
  cases hT:ji c.H c.sg.res c.V 8 s.nm ys T0 with
  |none=>
   simp only
   intro aa
   refine⟨c.V,Z9,qg,?_⟩
   rw[nt]
   rw[hT]at cF
   simp only[Option.isSome_none,kU]at cF
   generalize br s.bd=bv at *
   generalize br s.el=lv at *
   generalize (c.fail s.a).obj=o at *
   refine ax (sf:=ku) rfl rfl rfl ?_
   simp[-au,-ag,ku,kZ,en,e1,e2,b1,b2,l1,l2,cw,m1,m2,lg,cF,z9,af,AV.view,AV.an,AV.ah,aN,bp]
  |some x=>
   obtain⟨r,W⟩:=x
   have lX:=lX r W hT
   subst lX
   rw[hT]at cF
   simp only[Option.isSome_some,kU]at cF
   have HC:({ c with V:=W }:CK)=c.bF W:=rfl
   rw[HC]at cF
   simp only[show ¬((8:Int)=5) from by decide,show ¬((8:Int)=6) from by decide,if_false]
   intro aa
   have yK:(Sm.mk 8 (bO 8 s.nm) (bh 8 s.on) (bn 8 s.od) ys [] [] s.a z).row=[.int .i64 8,.str [],.str [],.int .i64 0,yv,.U,.U,.int .i64 s.a,.int .i64 z]:=by simp[Sm.row,Sm.rows,bO,bh,bn,E6]
   show _=some (AV.agg (Sm.mk 8 (bO 8 s.nm) (bh 8 s.on) (bn 8 s.od) ys [] [] s.a z).row,_)
   rw[yK]
   generalize br s.bd=bv at *
   generalize br s.el=lv at *
   generalize (c.bF W).obj=o at *
   refine ax (sf:=ku) rfl rfl rfl ?_
   simp[-au,-ag,ku,kZ,en,e1,e2,b1,b2,l1,l2,cw,m1,m2,y1,lg,cF,af,AV.view,AV.an,AV.ah,aN,bp]
theorem Yd (c:CK)(s:Sm)(hf:c.fe=0)(hw:Way c)(dL:c.V.length+Sm.sz s<1000000000)(hk:s.k=9)(h:cY c.sg.has s.k s.es=true):xC c s:=by
 unfold xC
 have hz:=Sm.ni s
 have qH:=E.eW s.es
 have kZ:=λaa=>jz aa c s (by omega)
 rw[h]at kZ
 have en:=λwl aa st=>jG wl aa st
 have z9:=λaa=>dF aa c s.a []
 have lg:=λaa=>cu aa c []
 rw[decide_eq_true hf]at lg
 have nt:c.bF c.V=c:=rfl
 have cP:=Sm.aE s
 rw[hk]at cP
 rw[mE,h]
 rw[hk]at h ⊢
 simp only[if_true]
 rw[cP]at kZ ⊢
 have e1:aG (aT s.es)=true:=bg
 have e2:(aT s.es).view=aT s.es:=bz
 have b1:aG (br s.bd)=true:=bE
 have b2:(br s.bd).view=br s.bd:=bJ
 have l1:aG (br s.el)=true:=bE
 have l2:(br s.el).view=br s.el:=bJ
 obtain⟨e,o6,hek⟩:=Jw h
 have hze:cI 11 (aT s.es)=true:=qf
 have eY:aP (aT s.es)=E.rows s.es:=aR
 have hX:=gx c hf hw e (by have:E.sz e<=E.dG s.es:=E.iO (by rw[o6];exact List.mem_cons_self);omega)
 unfold OkX at hX
 have th:vO c.H c.V 9 s.es=match rW c.H c.V e with|.error x=>.error x|.ok y=>.ok [y]:=by rw[o6];exact P4
 rw[show E.rows s.es=E.rows [e] from by rw[o6]]at eY
 simp only[E.rows,E.aE]at eY
 have HB:iM c.H 9 s.on s.od=some T0:=if_neg (by decide)
 rw[HB]
 simp only
 rw[th]
 cases hv:rW c.H c.V e with
 |error a=>
  rw[hv]at hX
  simp only at hX ⊢
  intro aa
  refine⟨c.V,Z9,qg,?_⟩
  rw[nt]
  obtain⟨y,ev⟩:=hX 1
  have jx:=λaa=>cu aa (c.fail a) []
  rw[decide_eq_false iP]at jx
  rw[E.aE e,E.aE y]at ev
  generalize aT s.es=kv at *
  generalize br s.bd=bv at *
  generalize br s.el=lv at *
  generalize (c.fail a).obj=o at *
  refine ax (sf:=ku) rfl rfl rfl ?_
  simp[-au,-ag,ku,kZ,en,e1,e2,b1,b2,l1,l2,hze,eY,bH,ev,jx,af,AV.view,AV.an,AV.ah,aN,bp]
 |ok y=>
  rw[hv]at hX
  simp only at hX ⊢
  have nj:cY c.sg.has 9 [y]=true:=by simp[cY,KM hv,hek]
  obtain⟨fv,⟨z,rfl,lX⟩,cF⟩:=n7 1 c 9 (bO 9 s.nm) (bh 9 s.on) (bn 9 s.od) [y] s.a T0 hw.s nj
  simp only[lP]at lX cF
  have kj:(Sm.mk 9 (bO 9 s.nm) (bh 9 s.on) (bn 9 s.od) [y] [] [] s.a 0).row=[.int .i64 9,.str [],.str [],.int .i64 0,aT [y],.U,.U,.int .i64 s.a,.int .i64 0]:=by simp[Sm.row,Sm.rows,bO,bh,bn]
  rw[kj]at cF
  have E6:aT [y]=.cN 11 [y.row]:=by simp[aT,E.rows]
  rw[E6]at cF
  rw[E.aE y]at cF hX E6
  rw[E.aE e]at hX
  generalize aT s.es=kv at *
  cases hT:ji c.H c.sg.res c.V 9 s.nm [y] T0 with
  |none=>
   simp only
   intro aa
   refine⟨c.V,Z9,qg,?_⟩
   rw[nt]
   rw[hT]at cF
   simp only[Option.isSome_none,kU]at cF
   generalize br s.bd=bv at *
   generalize br s.el=lv at *
   generalize (c.fail s.a).obj=o at *
   refine ax (sf:=ku) rfl rfl rfl ?_
   simp[-au,-ag,ku,kZ,en,e1,e2,b1,b2,l1,l2,hze,eY,bH,hX,lg,cF,z9,af,AV.view,AV.an,AV.ah,aN,bp]
  |some x=>
   obtain⟨r,W⟩:=x
   have lX:=lX r W hT
   subst lX
   rw[hT]at cF
   simp only[Option.isSome_some,kU]at cF
   have HC:({ c with V:=W }:CK)=c.bF W:=rfl
   rw[HC]at cF
   simp only[show ¬((9:Int)=5) from by decide,show ¬((9:Int)=6) from by decide,if_false]
   intro aa
   have yK:(Sm.mk 9 (bO 9 s.nm) (bh 9 s.on) (bn 9 s.od) [y] [] [] s.a z).row=[.int .i64 9,.str [],.str [],.int .i64 0,aT [y],.U,.U,.int .i64 s.a,.int .i64 z]:=by simp[Sm.row,Sm.rows,bO,bh,bn]
   show _=some (AV.agg (Sm.mk 9 (bO 9 s.nm) (bh 9 s.on) (bn 9 s.od) [y] [] [] s.a z).row,_)
   rw[yK]
   generalize br s.bd=bv at *
   generalize br s.el=lv at *
   generalize (c.bF W).obj=o at *
   refine ax (sf:=ku) rfl rfl rfl ?_
   simp[-au,-ag,ku,kZ,en,e1,e2,b1,b2,l1,l2,hze,eY,bH,hX,E6,lg,cF,af,AV.view,AV.an,AV.ah,aN,bp]
end K9
namespace K9
open Ax Go cp V7 j4 k8
theorem Ue {has:Bool}{k:Int}{es:List E}(h:cY has k es=true):k=1\/k=2\/k=3\/k=4\/k=5\/k=6\/k=7\/k=8\/k=9:=by
 by_cases h1:k=1
 ·exact .inl h1
 by_cases h4:k=4
 ·omega
 by_cases h7:k=7
 ·omega
 by_cases h9:k=9
 ·omega
 unfold cY at h
 rw[if_neg h1,if_neg h4,if_neg h7,if_neg h9]at h
 split at h
 ·omega
 ·cases h
theorem HD {H:Hd}{has:Bool}{res:T3}{V:List Vd}{l:List Sm}{k:Nat}(h:k<l.length):j6 H has res V (l.drop k)=match sY H has res V l[k] with
  |.error x=>.error x
  |.ok (y,W)=>match j6 H has res W (l.drop (k+1)) with
   |.error x=>.error x
   |.ok (ys,X)=>.ok (y::ys,X):=by
 rw[List.drop_eq_getElem_cons h]
 conv=>lhs;unfold j6
 rfl
def preB (ys:List Sm)(r:Except Int (List Sm×List Vd)):Except Int (List Sm×List Vd):=match r with
 |.error x=>.error x
 |.ok (zs,X)=>.ok (ys++zs,X)
theorem MD {H:Hd}{has:Bool}{res:T3}{V:List Vd}{l:List Sm}{ys:List Sm}{k:Nat}(h:k<l.length):preB ys (j6 H has res V (l.drop k))=match sY H has res V l[k] with
  |.error x=>.error x
  |.ok (y,W)=>preB (ys++[y]) (j6 H has res W (l.drop (k+1))):=by
 rw[HD h]
 split
 ·rfl
 ·split
  ·rename_i h1;rw[h1];rfl
  ·rename_i h1;rw[h1];simp[preB]
theorem B3 {l:List Sm}{k:Nat}(h:k<l.length):(Sm.rows l)[k]?=some l[k].row:=by simp[gi,h]
theorem wX {l:List Sm}{k:Nat}(h:k<l.length)(h2:k<(Sm.rows l).length):(Sm.rows l)[k]=l[k].row:=by simp[gi]
theorem HE:∀(l:List Sm)(k:Nat)(h:k<l.length),Sm.dG (l.drop k)=Sm.sz l[k]+Sm.dG (l.drop (k+1)):=by
 intro l k h
 rw[List.drop_eq_getElem_cons h];rfl
theorem eP (c:CK)(l:List Sm)(hf:c.fe=0)(hw:Way c)(dL:c.V.length+Sm.dG l<1000000000)
  (hl:∀s∈l,∀d:CK,d.H=c.H->d.sg=c.sg->d.fe=0->Way d->d.V.length+Sm.sz s<1000000000->xC d s):JA c l:=by
 unfold JA
 have hz:cI 9 (br l)=true:=EZ
 have dA:aG (br l)=true:=bE
 have g9:(br l).view=br l:=bJ
 have eY:aP (br l)=Sm.rows l:=aR
 have hlen:=Sm.eW l
 have nc:∀(ys:List Sm) (y:Sm),ys.length<1000000000->uC 9 136 (b8 9 (Sm.rows ys)) [y.row]=some (b8 9 (Sm.rows (ys++[y]))):=λys y h=>by
  rw[eU (by simp[fits,Sm.aE]) (by simp[room];omega)]
  simp[gi]
 have CN:∀(ys:List (List AV)) (y:List AV),y.length=9->ys.length<1000000000->uC 9 136 (b8 9 ys) [y]=some (b8 9 (ys++[y])):=λys y h1 h=>by
  rw[eU (by simp[fits,h1]) (by simp[room];omega)]
 cases hR:j6 c.H c.sg.has c.sg.res c.V l with
 |ok x=>
  obtain⟨zs,X⟩:=x
  intro aa
  refine ax (sf:=Vs) rfl rfl rfl ?_
  generalize br l=lv at *
  simp[-au,-ag,Vs,dA,g9,eY]
  refine bC Br.eq_1 (λx:Nat×List Sm×List Vd×List AV=>⟨[(0,.val (.ptr 0 0 0 0)),(5,.val (b8 9 (Sm.rows x.2.1))),(8,.val lv),(9,.val (.int .i64 l.length)),(10,.val (.int .i64 x.1))],[x.2.2.2],[(c.bF x.2.2.1).obj]⟩)
   (λx=>x.1<=l.length/\x.2.1.length=x.1/\preB x.2.1 (j6 c.H c.sg.has c.sg.res x.2.2.1 (l.drop x.1))=.ok (zs,X)/\Way (c.bF x.2.2.1)/\x.2.2.1.length+Sm.dG (l.drop x.1)<1000000000) (λx=>l.length-x.1) (0,[],c.V,[]) rfl ⟨by simp,rfl,by simp[preB,hR],hw,by simpa using dL⟩ ?_
  rintro⟨k,ys,V,b⟩ ⟨hk,hy,hp,hW,hVs⟩ ih
  simp only at hk hy hp hW hVs ih
  by_cases aZ:k<l.length
  ·have rE:IntKind.i64.wrap ((k:Int)+1)=((k+1:Nat):Int):=by rw[wrap64]<;>omega
   rw[HE l k aZ]at hVs
   have hv:=hl l[k] (List.getElem_mem aZ) (c.bF V) rfl rfl hf hW (by show V.length+_<_;omega)
   unfold xC at hv
   have JG:sY (c.bF V).H (c.bF V).sg.has (c.bF V).sg.res (c.bF V).V l[k]=sY c.H c.sg.has c.sg.res V l[k]:=rfl
   rw[JG]at hv
   rw[MD aZ]at hp
   have gE:=B3 aZ
   have rY:=λh2=>wX aZ h2
   have lg:=λaa=>cu aa (c.bF V) []
   rw[decide_eq_true (show (c.bF V).fe=0 from hf)]at lg
   cases hx:sY c.H c.sg.has c.sg.res V l[k] with
   |error a=>rw[hx]at hp;cases hp
   |ok x=>
    obtain⟨y,W⟩:=x
    rw[hx]at hp hv
    simp only at hp hv
    obtain⟨w1,w2⟩:=Jv l[k] V y W hW.V hx
    have ap:=nc ys y (by omega)
    have ey:=λb=>ih (k+1,ys++[y],W,b) ⟨by simp only;omega,by simp[hy],hp,E4 (W:=W) hw w1 (by omega),by show W.length+Sm.dG (l.drop (k+1))<1000000000;omega⟩ (by simp only;omega)
    simp only at ey
    have wW:(c.bF V).bF W=c.bF W:=rfl
    rw[wW]at hv
    generalize (c.bF V).obj=o1 at *
    generalize (c.bF W).obj=o2 at *
    generalize b8 9 (Sm.rows (ys++[y]))=R at *
    rw[Sm.aE l[k]]at hv gE
    simp only[Sm.aE l[k]]at rY
    rw[Sm.aE y]at hv ap
    generalize l[k]=x at *
    simp[-au,-ag,bH,aZ,rE,hz,eY,rY,lg,hv,ap,af,AV.view]
    exact ey _
  ·have iK:k=l.length:=by omega
   have hh:ys=zs/\V=X:=by
    rw[iK,List.drop_length]at hp
    simpa [j6,preB] using hp
   obtain⟨h1,h2⟩:=hh
   subst h1 h2
   simp[-au,-ag,aZ]
 |error a=>
  intro aa
  obtain⟨v,bK,h1,W,h2,h3⟩:∃v bK,(aW S).call 0 aa 43 [.ptr 0 0 0 0,br l] [c.obj]=some (v,bK)/\∃W,aG v=true/\bK=[((c.bF W).fail a).obj]:=by
   refine z8 (sf:=Vs) rfl rfl rfl ?_
   generalize br l=lv at *
   simp[-au,-ag,Vs,dA,g9,eY]
   refine bC Br.eq_1 (λx:Nat×List (List AV)×List Vd×CK×List AV=>⟨[(0,.val (.ptr 0 0 0 0)),(5,.val (b8 9 x.2.1)),(8,.val lv),(9,.val (.int .i64 l.length)),(10,.val (.int .i64 x.1))],[x.2.2.2.2],[x.2.2.2.1.obj]⟩)
    (λx=>x.1<=l.length/\x.2.1.length=x.1/\(x.2.2.2.1=c.bF x.2.2.1/\j6 c.H c.sg.has c.sg.res x.2.2.1 (l.drop x.1)=.error a/\Way (c.bF x.2.2.1)/\x.2.2.1.length+Sm.dG (l.drop x.1)<1000000000\/x.2.2.2.1=(c.bF x.2.2.1).fail a))
    (λx=>l.length-x.1) (0,[],c.V,c,[]) rfl ⟨by simp,rfl,.inl ⟨rfl,by simpa using hR,hw,by simpa using dL⟩⟩ ?_
   rintro⟨k,ys,V,d,b⟩ ⟨hk,hy,hp⟩ ih
   simp only at hk hy hp ih
   by_cases aZ:k<l.length
   ·have rE:IntKind.i64.wrap ((k:Int)+1)=((k+1:Nat):Int):=by rw[wrap64]<;>omega
    have gE:=B3 aZ
    have rY:=λh2=>wX aZ h2
    rcases hp with⟨hd,hp,hW,hVs⟩|hd
    ·subst hd
     rw[HE l k aZ]at hVs
     have hv:=hl l[k] (List.getElem_mem aZ) (c.bF V) rfl rfl hf hW (by show V.length+_<_;omega)
     unfold xC at hv
     have JG:sY (c.bF V).H (c.bF V).sg.has (c.bF V).sg.res (c.bF V).V l[k]=sY c.H c.sg.has c.sg.res V l[k]:=rfl
     rw[JG]at hv
     rw[HD aZ]at hp
     have lg:=λaa=>cu aa (c.bF V) []
     rw[decide_eq_true (show (c.bF V).fe=0 from hf)]at lg
     cases hx:sY c.H c.sg.has c.sg.res V l[k] with
     |error a'=>
      rw[hx]at hp hv
      simp only at hp hv
      cases hp
      obtain⟨W,row,⟨rk,rnm,ron,rod,res,rbd,rel,ra,Ye,rfl,q1,q2,q3⟩,hv⟩:=hv 1
      have wW:(c.bF V).bF W=c.bF W:=rfl
      rw[wW]at hv
      have ap:=CN ys [.int .i64 rk,.str rnm,.str ron,.int .i64 rod,res.view,rbd.view,rel.view,.int .i64 ra,.int .i64 Ye] rfl (by omega)
      have ey:=λb=>ih (k+1,ys++[[.int .i64 rk,.str rnm,.str ron,.int .i64 rod,res.view,rbd.view,rel.view,.int .i64 ra,.int .i64 Ye]],W,(c.bF W).fail a,b) ⟨by simp only;omega,by simp[hy],.inr rfl⟩ (by simp only;omega)
      simp only at ey
      generalize (c.bF V).obj=o1 at *
      generalize ((c.bF W).fail a).obj=o2 at *
      generalize b8 9 (ys++[[.int .i64 rk,.str rnm,.str ron,.int .i64 rod,res.view,rbd.view,rel.view,.int .i64 ra,.int .i64 Ye]])=R at *
      rw[Sm.aE l[k]]at hv gE
      simp only[Sm.aE l[k]]at rY
      generalize l[k]=x at *
      simp[-au,-ag,bH,aZ,rE,hz,eY,rY,lg,hv,ap,q1,q2,q3,af,AV.view]
      exact ey _
     |ok x=>
      obtain⟨y,W⟩:=x
      rw[hx]at hp hv
      simp only at hp hv
      obtain⟨w1,w2⟩:=Jv l[k] V y W hW.V hx
      have Wn:j6 c.H c.sg.has c.sg.res W (l.drop (k+1))=.error a:=by
       split at hp
       ·rename_i h;cases hp;exact h
       ·cases hp
      have ap:=CN ys y.row (by rw[Sm.aE];rfl) (by omega)
      have ey:=λb=>ih (k+1,ys++[y.row],W,c.bF W,b) ⟨by simp only;omega,by simp[hy],.inl ⟨rfl,Wn,E4 (W:=W) hw w1 (by omega),by show W.length+Sm.dG (l.drop (k+1))<1000000000;omega⟩⟩ (by simp only;omega)
      simp only at ey
      have wW:(c.bF V).bF W=c.bF W:=rfl
      rw[wW]at hv
      generalize (c.bF V).obj=o1 at *
      generalize (c.bF W).obj=o2 at *
      generalize b8 9 (ys++[y.row])=R at *
      rw[Sm.aE l[k]]at hv gE
      simp only[Sm.aE l[k]]at rY
      rw[Sm.aE y]at hv ap
      generalize l[k]=x at *
      simp[-au,-ag,bH,aZ,rE,hz,eY,rY,lg,hv,ap,af,AV.view]
      exact ey _
    ·subst hd
     have jx:=λaa=>cu aa ((c.bF V).fail a) []
     rw[decide_eq_false iP]at jx
     simp only[Sm.aE l[k]]at rY
     rw[Sm.aE l[k]]at gE
     have hex:∃W,((c.bF V).fail a).obj=((c.bF W).fail a).obj:=⟨V,rfl⟩
     generalize ((c.bF V).fail a).obj=o2 at *
     generalize l[k]=x at *
     simp[-au,-ag,bH,aZ,hz,eY,rY,jx,hex,af,AV.view]
   ·have iK:k=l.length:=by omega
    rcases hp with⟨hd,hp,_⟩|hd
    ·rw[iK,List.drop_length]at hp
     simp[j6]at hp
    ·subst hd
     have hex:∃W,((c.bF V).fail a).obj=((c.bF W).fail a).obj:=⟨V,rfl⟩
     generalize ((c.bF V).fail a).obj=o2 at *
     simp[-au,-ag,aZ,hex]
  rw[h3]at h1
  exact⟨W,v,h2,h1⟩
theorem rF (s:Sm):∀c:CK,c.fe=0->Way c->c.V.length+Sm.sz s<1000000000->xC c s:=by
 induction s using Sm.ind with
 |_ s rL rA=>
  intro c hf hw dL
  have hz:=Sm.ni s
  have qH:=E.eW s.es
  cases h:cY c.sg.has s.k s.es with
  |false=>exact X4 c s (by omega) h
  |true=>
   have B2:∀d:CK,d.H=c.H->d.sg=c.sg->d.fe=0->Way d->d.V.length+Sm.dG s.bd<1000000000->JA d s.bd:=λd _ _ h1 h2 h3=>
    eP d s.bd h1 h2 h3 λx hx e _ _ g1 g2 g3=>rL x hx e g1 g2 g3
   have MB:∀d:CK,d.H=c.H->d.sg=c.sg->d.fe=0->Way d->d.V.length+Sm.dG s.el<1000000000->JA d s.el:=λd _ _ h1 h2 h3=>
    eP d s.el h1 h2 h3 λx hx e _ _ g1 g2 g3=>rA x hx e g1 g2 g3
   rcases Ue h with k|k|k|k|k|k|k|k|k
   ·exact X5 c s hf hw dL k h
   ·exact X6 c s hf hw dL k h
   ·exact X7 c s hf hw dL k h
   ·exact X8 c s hf hw dL k h
   ·exact X9 c s hf hw dL k h B2 MB
   ·exact Ya c s hf hw dL k h B2
   ·exact Yb c s hf hw dL k h
   ·exact Yc c s hf hw dL k h
   ·exact Yd c s hf hw dL k h
theorem ET (c:CK)(l:List Sm)(hf:c.fe=0)(hw:Way c)(dL:c.V.length+Sm.dG l<1000000000):JA c l:=
 eP c l hf hw dL λs _ d _ _ h1 h2 h3=>rF s d h1 h2 h3
end K9
namespace K9
open Ax Go cp V7 j4 k8
theorem B4 (wl aa:Nat)(l:List Vd)(st:aj)(hn:l.length<1000000000):(aW S).call wl aa 42 [cj l] st=some (b8 4 (l.map Vd.row),st):=by
 refine bT (sf:=s42) rfl rfl (by simp[AV.ah]) rfl (by simp) ?_
 cases l with
 |nil=>simp[s42,cj,mO,Fw]
 |cons v l=>
  have hv:cj (v::l)=.cN 4 ((v::l).map Vd.row):=rfl
  have nc:=eU (sz:=4) (bytes:=40) (r:=[]) (new:=(v::l).map Vd.row) (by simp[fits,Vd.row]) (by simp[room]at hn ⊢;omega)
  rw[hv]
  simp only[List.nil_append]at nc
  have hm:b8 4 ((v::l).map Vd.row)=.own 4 ((v::l).map Vd.row):=rfl
  rw[hm]at nc ⊢
  have xK:uC 4 40 .emp ((v::l).map Vd.row)=some (.own 4 ((v::l).map Vd.row)):=by
   simp[uC,fits,Vd.row,room]at hn ⊢;omega
  generalize (v::l).map Vd.row=R at *
  simp[s42,xK,Fw]
def CK.ld (c:CK)(g:Sg):CK:={ c with sg:=g,V:=g.ps }
theorem Yf {c:CK}{a:Int}:(c.fail a).V=c.V:=by unfold CK.fail;split<;>rfl
theorem Uf (c:CK)(f:Fc)(g:Sg)(hf:c.fe=0)(hw:Way (c.ld g))(dL:g.ps.length+Sm.dG f.body<1000000000):match j6 c.H g.has g.res g.ps f.body with
  |.ok (ys,W)=>∀aa,(aW S).call 0 aa 24 [.ptr 0 0 0 0,.agg f.row,.agg g.row] [c.obj]=some (.agg [cj W,b8 9 (Sm.rows ys),.int .i64 f.a],[((c.ld g).bF W).obj])
  |.error a=>∀aa,∃W v,aG v=true/\(aW S).call 0 aa 24 [.ptr 0 0 0 0,.agg f.row,.agg g.row] [c.obj]=some (.agg [cj W,v,.int .i64 f.a],[(((c.ld g).bF W).fail a).obj]):=by
 have hB:=ET (c.ld g) f.body hf hw dL
 unfold JA at hB
 have JG:j6 (c.ld g).H (c.ld g).sg.has (c.ld g).sg.res (c.ld g).V f.body=j6 c.H g.has g.res g.ps f.body:=rfl
 rw[JG]at hB
 have hV:=hw.s.V
 have ec:=λwl aa st=>B4 wl aa g.ps st (by exact hV)
 have h1:∀aa bx,aI 0 aa (.store 6) [.val (.ptr 0 0 0 5),.val (.agg g.row)] [c.obj] bx=some (.none,[({ c with sg:=g }:CK).obj],bx):=λaa bx=>by
  simp[CK.obj,Sg.row,bf,AV.ah,AV.an,af]
 have h2:∀aa bx,aI 0 aa (.store 1) [.val (.ptr 0 0 0 11),.val (b8 4 (g.ps.map Vd.row))] [({ c with sg:=g }:CK).obj] bx=some (.none,[(c.ld g).obj],bx):=λaa bx=>by
  simp[CK.obj,CK.ld,bf,AV.ah,af]
 generalize ({ c with sg:=g }:CK).obj=o1 at *
 have g1:aG (b8 4 (g.ps.map Vd.row))=true:=cV
 generalize b8 4 (g.ps.map Vd.row)=mg at *
 have g3:=bu g1
 have g4:=cm g1
 have p1:aG (cj g.ps)=true:=jc
 have p2:(cj g.ps).view=cj g.ps:=jy
 have q1:aG (br f.body)=true:=bE
 have q2:(br f.body).view=br f.body:=bJ
 simp only[Sg.row]at h1 ⊢
 simp only[Fc.row]
 cases hR:j6 c.H g.has g.res g.ps f.body with
 |ok x=>
  obtain⟨ys,W⟩:=x
  rw[hR]at hB
  simp only at hB ⊢
  intro aa
  have ev:=λwl aa bx=>Hw (wl:=wl) (aa:=aa) (c:=(c.ld g).bF W) (r:=[]) (bx:=bx)
  have Z4:((c.ld g).bF W).V=W:=rfl
  rw[Z4]at ev
  generalize ((c.ld g).bF W).obj=o3 at *
  generalize (c.ld g).obj=o2 at *
  have y1:aG (b8 9 (Sm.rows ys))=true:=cV
  have y2:(b8 9 (Sm.rows ys)).view=br ys:=rfl
  have y3:=bu y1
  have y4:=cm y1
  generalize b8 9 (Sm.rows ys)=my at *
  have w1:aG (cj W)=true:=jc
  have w2:(cj W).view=cj W:=jy
  generalize cj W=fw at *
  generalize cj g.ps=fg at *
  generalize br f.body=fb at *
  refine ax (sf:=s24) rfl rfl rfl ?_
  simp[-au,-ag,s24,ec,h1,h2,hB,ev,p1,p2,q1,q2,w1,y1,af,AV.view,AV.an,AV.ah,aB,az]
 |error a=>
  rw[hR]at hB
  simp only at hB ⊢
  intro aa
  obtain⟨W,v,v1,hB⟩:=hB 1
  refine⟨W,v,v1,?_⟩
  have ev:=λwl aa bx=>Hw (wl:=wl) (aa:=aa) (c:=((c.ld g).bF W).fail a) (r:=[]) (bx:=bx)
  have Z4:(((c.ld g).bF W).fail a).V=W:=Yf
  rw[Z4]at ev
  generalize (((c.ld g).bF W).fail a).obj=o3 at *
  generalize (c.ld g).obj=o2 at *
  have v3:=bu v1
  have v4:=cm v1
  have v5:aG v.view=true:=by rw[qy];exact v1
  have w1:aG (cj W)=true:=jc
  have w2:(cj W).view=cj W:=jy
  generalize cj W=fw at *
  generalize cj g.ps=fg at *
  generalize br f.body=fb at *
  refine ax (sf:=s24) rfl rfl rfl ?_
  simp[-au,-ag,s24,ec,h1,h2,hB,ev,p1,p2,q1,q2,w1,v1,af,AV.view,AV.an,AV.ah,aB,az]
open N7 U7 in
theorem Aa (p:Pg):jQ (de (j8 p).bw)=bX p:=by
 rw[pV]
 simp[jQ,bX,Hv]
def mS (H:Hd)(m:Int):List AV:=[aA 2 (H.ct.map gV),cj H.globals,aA 6 (H.sigs.map Sg.row),.int .i64 m]
theorem tj (rs:List (List UInt8))(l:List PD):gw rs l=(lK rs l).map Vd.row:=by
 simp only[gw,lK,List.map_map]
 exact List.map_congr_left λq _=>rfl
open N7 U7 in
def gW (p:Pg):Int:=wT (jh (j8 p).funcs)
open N7 U7 in
theorem Qt (p:Pg):BR (j8 p)=.agg (mS (aQ p) (gW p)):=by
 unfold BR mS gW
 have h1:mR (jQ (de (j8 p).bw)) (de (j8 p).bw)=(aQ p).ct.map gV:=by
  rw[Aa,pV]
  simp only[mR,aQ,List.map_map]
  exact List.map_congr_left λr _=>by simp only[Function.comp,EO,Hv,n6,gV,tj];rfl
 have h2:gw (jQ (de (j8 p).bw)) (nF (j8 p).globals)=(aQ p).globals.map Vd.row:=by
  rw[Aa,EY,tj];rfl
 have h3:g8 (jQ (de (j8 p).bw)) (jh (j8 p).funcs)=(aQ p).sigs.map Sg.row:=by
  rw[Aa,pW]
  simp only[g8,aQ,List.map_map]
  refine List.map_congr_left λf _=>?_
  simp only[Function.comp,ir,CO,n6,Sg.row,vA,U7.nE,tj]
  obtain⟨n,ps,has,on,od,body,a⟩:=f
  cases has<;>rfl
 rw[h1,h2,h3]
 rfl
theorem KU (p:Pg):(aQ p).ok:=by
 refine⟨by simp[aQ,bX],?_,?_,?_⟩
 ·intro s hs f hf
  simp only[aQ]at hs
  obtain⟨r,_,rfl⟩:=List.mem_map.1 hs
  simp only[lK]at hf
  obtain⟨q,_,rfl⟩:=List.mem_map.1 hf
  exact lN _ _ _
 ·intro f hf
  simp only[aQ,lK]at hf
  obtain⟨q,_,rfl⟩:=List.mem_map.1 hf
  exact lN _ _ _
 ·intro s hs
  simp only[aQ]at hs
  obtain⟨r,_,rfl⟩:=List.mem_map.1 hs
  refine⟨?_,λf hf=>?_⟩
  ·simp only[vA]
   split
   ·exact lN _ _ _
   ·exact PZ
  ·simp only[vA,lK]at hf
   obtain⟨q,_,rfl⟩:=List.mem_map.1 hf
   exact lN _ _ _
abbrev Z5:AV:=.agg [.U,.U,.U,.int .i64 0,.U]
def B5 (H:Hd)(m:Int)(r:Except Int (List Bd)):AV:=match r with
 |.error a=>.fm [Z5,.agg [.int .i64 3,.int .i64 a]]
 |.ok l=>.fm [.agg (mS H m++[aA 3 (l.map Bd.row)]),.agg [.int .i64 0,.int .i64 0]]
open N7 U7 in
def tn (p:Pg):AV:=match lS (j8 p) with
 |some a=>.fm [Z5,.agg [.int .i64 3,.int .i64 a]]
 |none=>B5 (aQ p) (gW p) (qj (aQ p) (aQ p).sigs p.funcs)
def ME (bs:List Bd)(r:Except Int (List Bd)):Except Int (List Bd):=match r with
 |.error x=>.error x
 |.ok zs=>.ok (bs++zs)
theorem Qu {H:Hd}{ss:List Sg}{fs:List Fc}{bs:List Bd}{k:Nat}(h:k<ss.length)(h2:k<fs.length):ME bs (qj H (ss.drop k) (fs.drop k))=match j6 H ss[k].has ss[k].res ss[k].ps fs[k].body with
  |.error x=>.error x
  |.ok (c,W)=>ME (bs++[⟨W,c,fs[k].a⟩]) (qj H (ss.drop (k+1)) (fs.drop (k+1))):=by
 rw[List.drop_eq_getElem_cons h,List.drop_eq_getElem_cons h2]
 conv=>lhs;arg 2;unfold qj
 cases j6 H ss[k].has ss[k].res ss[k].ps fs[k].body with
 |error x=>rfl
 |ok x=>
  obtain⟨c,W⟩:=x
  simp only
  cases qj H (List.drop (k+1) ss) (List.drop (k+1) fs) with
  |error x=>rfl
  |ok x=>simp[ME]
def CK.Qv (c:CK)(w:AV):fh:=.rows 0 14 [[aA 2 (c.H.ct.map gV),cj c.H.globals,aA 6 (c.H.sigs.map Sg.row),.int .i64 c.main,w,.str c.sg.nm,cj c.sg.ps,.bool c.sg.has,.int .i64 c.sg.res.b,.int .i64 c.sg.res.r,.int .i64 c.sg.res.d,b8 4 (c.V.map Vd.row),.int .i64 c.fe,.int .i64 c.fa]]
def CK.Yg (c:CK)(R:List (List UInt8)):CK:={ c with H:={ c.H with rs:=R } }
theorem Ug {aa:Nat}{c:CK}{bx:aS}:aI 0 aa (.load false 1 true) [.val (.ptr 0 0 0 4)] [c.obj] bx=some (.val (b8 1 (gp c.H.rs)),[c.Qv (b8 1 (gp c.H.rs)).hJ],bx):=by
 simp only[CK.obj,CK.Qv]
 generalize gp c.H.rs=rows
 cases rows with
 |nil=>simp[aI,b8,cut,fF,dz,bf,AV.hJ,AV.an,AV.ah,af,bU]
 |cons a l=>simp[aI,b8,cut,fF,dz,bf,AV.hJ,AV.an,AV.ah,af,bU]
theorem Yh {aa:Nat}{c:CK}{w:AV}{R:List (List UInt8)}{bx:aS}:aI 0 aa (.store 1) [.val (.ptr 0 0 0 4),.val (b8 1 (gp R))] [c.Qv w] bx=some (.none,[(c.Yg R).obj],bx):=by
 simp[CK.obj,CK.Qv,CK.Yg,bf,AV.ah,af]
theorem Yi {wl aa:Nat}{c:CK}{r:aj}{bx:aS}:aI wl aa (.load true 2 false) [.val (.ptr 0 0 0 12)] (c.obj::r) bx=some (.val (.agg [.int .i64 c.fe,.int .i64 c.fa]),c.obj::r,bx):=by
 simp[CK.obj,cut,AV.view]
def sg0:Sg:=⟨[],[],false,T0⟩
def KW (H:Hd)(m:Int)(R:List (List UInt8)):CK:=⟨{ H with rs:=R },m,sg0,[],0,0⟩
theorem Uh {l:List Rc}{k:Nat}(h:k<l.length):(l.map Rc.row)[k]?=some [.str l[k].name,aA 4 (l[k].fields.map PD.cells),.int .i64 l[k].a]:=by simp[h,Rc.row]
theorem Yj {l:List Fc}{k:Nat}(h:k<l.length):(l.map Fc.row)[k]?=some [.str l[k].name,aA 4 (l[k].params.map PD.cells),.bool l[k].has,.str l[k].on,.int .i64 l[k].od,br l[k].body,.int .i64 l[k].a]:=by simp[h,Fc.row]
theorem MF (H:Hd)(m:Int)(r:Except Int (List Bd)):(B5 H m r).an=true:=by
 cases r<;>simp[B5,mS,AV.an,AV.ah]
theorem HF (p:Pg):(tn p).an=true:=by
 unfold tn
 split
 ·simp[AV.an,AV.ah]
 ·exact MF _ _ _
open N7 U7 in
theorem HH (wl aa:Nat)(p:Pg)(st:aj)(hg:(j8 p).ok)(rX:GD.sm (j8 p))(dL:∀f∈p.funcs,f.params.length+Sm.dG f.body<1000000000) :
  (aW S).call wl aa 10 [.agg p.row] st=some (tn p,st):=by
 have em:∀wl aa st,(aW S).call wl aa 23 [.agg p.row] st=some (Qd (j8 p),st):=λwl aa st=>EP wl aa (j8 p) st hg rX
 refine bT (sf:=s10) rfl rfl (by simp[Pg.row,AV.ah,AV.an]) rfl (HF p) ?_
 unfold tn
 unfold Qd at em
 cases hF:lS (j8 p) with
 |some a=>
  rw[hF]at em
  simp only[Hq,fE,fX,Pg.row]at em ⊢
  simp[-au,-ag,s10,em,af,AV.view,aB,az]
 |none=>
  rw[hF,Qt]at em
  simp only[fE,fX,Pg.row,mS]at em ⊢
  have NF:(KW (aQ p) (gW p) []).obj=.rows 0 14 [[aA 2 ((aQ p).ct.map gV),cj (aQ p).globals,aA 6 ((aQ p).sigs.map Sg.row),.int .i64 (gW p),.U,.str [],.U,.bool false,.int .i64 0,.int .i64 0,.int .i64 0,.U,.int .i64 0,.int .i64 0]]:=by
   simp[CK.obj,KW,sg0,gp,mO,cj]
  have rR:∀wl aa bx,aI wl aa (.box 14) [.val (.agg [aA 2 ((aQ p).ct.map gV),cj (aQ p).globals,aA 6 ((aQ p).sigs.map Sg.row),.int .i64 (gW p),.U,.str [],.U,.bool false,.int .i64 0,.int .i64 0,.int .i64 0,.U,.int .i64 0,.int .i64 0])] [] bx =
    some (.val (.ptr 0 0 0 0),[(KW (aQ p) (gW p) []).obj],bx):=λwl aa bx=>by rw[NF];simp
  have t1:aG (aA 2 ((aQ p).ct.map gV))=true:=aX
  have t2:(aA 2 ((aQ p).ct.map gV)).view=aA 2 ((aQ p).ct.map gV):=aY
  have t3:aG (aA 6 ((aQ p).sigs.map Sg.row))=true:=aX
  have t4:(aA 6 ((aQ p).sigs.map Sg.row)).view=aA 6 ((aQ p).sigs.map Sg.row):=aY
  have t5:cI 6 (aA 6 ((aQ p).sigs.map Sg.row))=true:=iC (by simp[fits,Sg.row])
  have t6:aP (aA 6 ((aQ p).sigs.map Sg.row))=(aQ p).sigs.map Sg.row:=aR
  have r1:aG (aA 3 (p.bw.map Rc.row))=true:=aX
  have r2:(aA 3 (p.bw.map Rc.row)).view=aA 3 (p.bw.map Rc.row):=aY
  have r3:cI 3 (aA 3 (p.bw.map Rc.row))=true:=iC (by simp[fits,Rc.row])
  have r4:aP (aA 3 (p.bw.map Rc.row))=p.bw.map Rc.row:=aR
  have f1:aG (aA 7 (p.funcs.map Fc.row))=true:=aX
  have f2:(aA 7 (p.funcs.map Fc.row)).view=aA 7 (p.funcs.map Fc.row):=aY
  have f3:cI 7 (aA 7 (p.funcs.map Fc.row))=true:=iC (by simp[fits,Fc.row])
  have f4:aP (aA 7 (p.funcs.map Fc.row))=p.funcs.map Fc.row:=aR
  have g1:aG (aA 4 (p.globals.map PD.cells))=true:=aX
  have g2:(aA 4 (p.globals.map PD.cells)).view=aA 4 (p.globals.map PD.cells):=aY
  generalize hHS:aA 2 ((aQ p).ct.map gV)=HS at *
  generalize hHG:aA 6 ((aQ p).sigs.map Sg.row)=HG at *
  generalize aA 3 (p.bw.map Rc.row)=PR at *
  generalize aA 7 (p.funcs.map Fc.row)=PF at *
  generalize aA 4 (p.globals.map PD.cells)=PG at *
  simp[-au,-ag,-Ku,s10,em,rR,t1,t2,t3,t4,r1,r2,r4,f1,f2,g1,g2,af,AV.view]
  have M3:(bX p).length=p.bw.length:=by simp[bX]
  have hrn:p.bw.length<1000000000:=by have:=rX.bw;rw[pV,List.length_map]at this;exact this
  have FC:p.funcs.length<1000000000:=by have:=rX.funcs;rw[pW,List.length_map]at this;exact this
  have hHr:(KW (aQ p) (gW p) (bX p)).H=aQ p:=rfl
  generalize hGL:cj (aQ p).globals=GL at *
  have gl1:aG GL=true:=by rw[<-hGL];exact jc
  have gl2:GL.view=GL:=by rw[<-hGL];exact jy
  refine bC OP.eq_1 (λx:Nat×List AV=>⟨[(1,.fp 0 0),(2,.fp 1 0),(3,.fp 2 0),(4,.fp 3 0),(6,.val (.ptr 0 0 0 0)),(26,.val PR),(27,.val (.int .i64 p.bw.length)),(28,.val (.int .i64 x.1))],
   [[PR,PG,PF],[.U,.U,.U,.int .i64 0,.U],[.int .i64 0,.int .i64 0],[HS,GL,HG,.int .i64 (gW p)],[.int .i64 0,.int .i64 0],x.2,[],[]],[(KW (aQ p) (gW p) ((bX p).take x.1)).obj]⟩)
   (λx=>x.1<=p.bw.length) (λx=>p.bw.length-x.1) (0,[]) (by simp) (by simp) ?_
  rintro⟨k,b⟩ hk ih
  simp only at hk ih
  by_cases aZ:k<p.bw.length
  ·have rE:IntKind.i64.wrap ((k:Int)+1)=((k+1:Nat):Int):=by rw[wrap64]<;>omega
   have gR:=Uh aZ
   have gR':∀h:k<(p.bw.map Rc.row).length,(p.bw.map Rc.row)[k]=[.str p.bw[k].name,aA 4 (p.bw[k].fields.map PD.cells),.int .i64 p.bw[k].a]:=λh=>by simp[Rc.row]
   have nc:=eU (sz:=1) (bytes:=16) (r:=gp ((bX p).take k)) (new:=[[.str p.bw[k].name]]) (by simp[fits]) (by simp[room,gp];omega)
   have XL:gp ((bX p).take k)++[[.str p.bw[k].name]]=gp ((bX p).take (k+1)):=by
    rw[List.take_succ_eq_append_getElem (by rw[M3];exact aZ)]
    simp[gp,bX]
   rw[XL]at nc
   have et:=λaa bx=>Ug (aa:=aa) (c:=KW (aQ p) (gW p) ((bX p).take k)) (bx:=bx)
   have ep:=λaa bx=>Yh (aa:=aa) (c:=KW (aQ p) (gW p) ((bX p).take k)) (w:=(b8 1 (gp ((bX p).take k))).hJ) (R:=(bX p).take (k+1)) (bx:=bx)
   have Nv:(KW (aQ p) (gW p) ((bX p).take k)).Yg ((bX p).take (k+1))=KW (aQ p) (gW p) ((bX p).take (k+1)):=rfl
   rw[Nv]at ep
   have RC:(KW (aQ p) (gW p) ((bX p).take k)).H.rs=(bX p).take k:=rfl
   rw[RC]at et
   have ey:=λb=>ih (k+1,b) (by simp only;omega) (by simp only;omega)
   simp only at ey
   generalize (KW (aQ p) (gW p) ((bX p).take (k+1))).obj=o1 at *
   generalize (KW (aQ p) (gW p) ((bX p).take k)).Qv (b8 1 (gp ((bX p).take k))).hJ=o2 at *
   generalize (KW (aQ p) (gW p) ((bX p).take k)).obj=o3 at *
   generalize b8 1 (gp ((bX p).take (k+1)))=m1 at *
   generalize b8 1 (gp ((bX p).take k))=m2 at *
   generalize p.bw[k]=rc at *
   simp[-au,-ag,bH,aZ,rE,r3,r4,gR',et,ep,nc,af,AV.view,aB,az]
   exact ey _
  ·have iK:k=p.bw.length:=by omega
   subst iK
   have CL:(bX p).take p.bw.length=bX p:=by rw[<-M3,List.take_length]
   rw[CL]
   simp[-au,-ag,t1,t2,t3,t4,f1,f2,f4,gl1,gl2,af,AV.view]
   have dA:(aQ p).sigs.length=p.funcs.length:=by simp[aQ]
   have ahG:∀(d:CK) (g:Sg),d.H=aQ p->g∈(aQ p).sigs->Way (d.ld g):=λd g hd E5=>by
    have Wj:=KU p
    have Ry:(aQ p).globals.length<1000000000:=by have:=rX.globals;rw[EY]at this;simpa [aQ,lK] using this
    have hF:∀s∈(aQ p).ct,s.2.length<1000000000:=λs hs=>by
     obtain⟨r,hr,rfl⟩:=List.mem_map.1 hs
     have:=rX.fields (Hv r) (by rw[pV];exact List.mem_map_of_mem hr)
     simpa [Hv,n6,lK] using this
    have hP:∀s∈(aQ p).sigs,s.ps.length<1000000000:=λs hs=>by
     obtain⟨r,hr,rfl⟩:=List.mem_map.1 hs
     have:=rX.params (CO r) (by rw[pW];exact List.mem_map_of_mem hr)
     simpa [CO,n6,vA,lK] using this
    refine⟨⟨hP g E5,?_,?_,?_,?_,?_⟩,?_,?_⟩
    ·show d.H.globals.length<_;rw[hd];exact Ry
    ·show d.H.sigs.length<_;rw[hd,dA];exact FC
    ·show d.H.rs.length<_;rw[hd];show (bX p).length<_;rw[M3];exact hrn
    ·show ∀s∈d.H.ct,_;rw[hd];exact hF
    ·show ∀s∈d.H.sigs,_;rw[hd];exact hP
    ·show d.H.ok;rw[hd];exact Wj
    ·show ∀f∈g.ps,WT d.H.rs.length f.ty;rw[hd];exact(Wj.sigs g E5).2
   refine bC OQ.eq_1 (λx:Nat×List Bd×CK×List AV=>⟨[(2,.fp 1 0),(3,.fp 2 0),(4,.fp 3 0),(6,.val (.ptr 0 0 0 0)),(9,.fp 6 0),(47,.val PF),(48,.val (.int .i64 p.funcs.length)),(49,.val (.int .i64 x.1))],
    [[PR,PG,PF],[.U,.U,.U,.int .i64 0,.U],[.int .i64 0,.int .i64 0],[HS,GL,HG,.int .i64 (gW p)],[.int .i64 0,.int .i64 0],b,[HS,GL,HG,.int .i64 (gW p),b8 3 (x.2.1.map Bd.row)],x.2.2.2],[x.2.2.1.obj]⟩)
    (λx=>x.1<=p.funcs.length/\x.2.1.length=x.1/\x.2.2.1.H=aQ p/\x.2.2.1.fe=0/\ME x.2.1 (qj (aQ p) ((aQ p).sigs.drop x.1) (p.funcs.drop x.1))=qj (aQ p) (aQ p).sigs p.funcs)
    (λx=>p.funcs.length-x.1) (0,[],KW (aQ p) (gW p) (bX p),[]) (by simp[mO]) ⟨by simp,rfl,rfl,rfl,by simp[ME];split<;>rename_i h<;>exact h.symm⟩ ?_
   rintro⟨k,bs,d,b7⟩ ⟨hk,hbs,hd,hdf,hp⟩ ih
   simp only at hk hbs hd hdf hp ih
   by_cases uE:k<p.funcs.length
   ·have mq:k<(aQ p).sigs.length:=by omega
    have rE:IntKind.i64.wrap ((k:Int)+1)=((k+1:Nat):Int):=by rw[wrap64]<;>omega
    have gF:=Yj uE
    have gF':∀h:k<(p.funcs.map Fc.row).length,(p.funcs.map Fc.row)[k]=[.str p.funcs[k].name,aA 4 (p.funcs[k].params.map PD.cells),.bool p.funcs[k].has,.str p.funcs[k].on,.int .i64 p.funcs[k].od,br p.funcs[k].body,.int .i64 p.funcs[k].a]:=λh=>by simp[Fc.row]
    have gS:((aQ p).sigs.map Sg.row)[k]?=some [.str (aQ p).sigs[k].nm,cj (aQ p).sigs[k].ps,.bool (aQ p).sigs[k].has,.int .i64 (aQ p).sigs[k].res.b,.int .i64 (aQ p).sigs[k].res.r,.int .i64 (aQ p).sigs[k].res.d]:=by simp[mq,Sg.row]
    have JD:∀h:k<((aQ p).sigs.map Sg.row).length,((aQ p).sigs.map Sg.row)[k]=[.str (aQ p).sigs[k].nm,cj (aQ p).sigs[k].ps,.bool (aQ p).sigs[k].has,.int .i64 (aQ p).sigs[k].res.b,.int .i64 (aQ p).sigs[k].res.r,.int .i64 (aQ p).sigs[k].res.d]:=λh=>by simp[Sg.row]
    rw[Qu mq uE]at hp
    have SG:(aQ p).sigs[k].ps.length=p.funcs[k].params.length:=by simp[aQ,vA,lK]
    have hB:=Uf d p.funcs[k] (aQ p).sigs[k] hdf (ahG d _ hd (List.getElem_mem mq)) (by rw[SG];exact dL _ (List.getElem_mem uE))
    rw[hd]at hB
    have nc:∀cs:List AV,cs.length=3->uC 3 56 (b8 3 (bs.map Bd.row)) [cs]=some (b8 3 (bs.map Bd.row++[cs])):=λcs hc=>eU (by simp[fits,hc]) (by simp[room];omega)
    have ps1:aG (aA 4 (p.funcs[k].params.map PD.cells))=true:=aX
    have ps2:(aA 4 (p.funcs[k].params.map PD.cells)).view=aA 4 (p.funcs[k].params.map PD.cells):=aY
    have bd1:aG (br p.funcs[k].body)=true:=bE
    have bd2:(br p.funcs[k].body).view=br p.funcs[k].body:=bJ
    have sp1:aG (cj (aQ p).sigs[k].ps)=true:=jc
    have sp2:(cj (aQ p).sigs[k].ps).view=cj (aQ p).sigs[k].ps:=jy
    simp only[Fc.row,Sg.row]at hB
    generalize hrS:(aQ p).sigs.map Sg.row=RS at *
    generalize hrF:p.funcs.map Fc.row=RF at *
    have Qw:k<RS.length:=by rw[<-hrS,List.length_map];exact mq
    have Yk:k<RF.length:=by rw[<-hrF,List.length_map];exact uE
    have Ui:=JD Qw
    have acW:=gF' Yk
    clear JD gF'
    cases hR:j6 (aQ p) (aQ p).sigs[k].has (aQ p).sigs[k].res (aQ p).sigs[k].ps p.funcs[k].body with
    |error a=>
     rw[hR]at hp hB
     simp only at hp hB
     obtain⟨W,v,v1,hB⟩:=hB 0
     have FD:(((d.ld (aQ p).sigs[k]).bF W).fail a).fe=3/\(((d.ld (aQ p).sigs[k]).bF W).fail a).fa=a:=by
      have:((d.ld (aQ p).sigs[k]).bF W).fe=0:=hdf
      unfold CK.fail
      rw[if_pos this]
      exact⟨rfl,rfl⟩
     have lg:=λaa=>cu aa (((d.ld (aQ p).sigs[k]).bF W).fail a) []
     rw[decide_eq_false iP]at lg
     have hcf:∀wl aa bx,aI wl aa (.load true 2 false) [.val (.ptr 0 0 0 12)] [(((d.ld (aQ p).sigs[k]).bF W).fail a).obj] bx=some (.val (.agg [.int .i64 3,.int .i64 a]),[(((d.ld (aQ p).sigs[k]).bF W).fail a).obj],bx):=λwl aa bx=>by
      rw[Yi,FD.1,FD.2]
     rw[<-hp]
     simp only[B5]
     generalize (((d.ld (aQ p).sigs[k]).bF W).fail a).obj=o1 at *
     have w1:aG (cj W)=true:=jc
     have w2:(cj W).view=cj W:=jy
     generalize cj W=FW at *
     have ap:=nc [FW,v.view,.int .i64 p.funcs[k].a] rfl
     have v2:=bu v1
     have v3:=cm v1
     have v4:aG v.view=true:=by rw[qy];exact v1
     generalize aA 4 (p.funcs[k].params.map PD.cells)=PP at *
     generalize br p.funcs[k].body=PB at *
     generalize cj (aQ p).sigs[k].ps=SP at *
     generalize b8 3 (bs.map Bd.row)=BL at *
     generalize p.funcs[k]=fk at *
     generalize (aQ p).sigs[k]=gk at *
     simp[-au,-ag,bH,uE,f3,f4,acW,Ui,Qw,Yk,t4,t5,t6,ps1,ps2,bd1,bd2,sp2,hB,w1,w2,v4,ap,lg,hcf,af,AV.view,AV.an,AV.ah,aB,az]
    |ok x=>
     obtain⟨c,W⟩:=x
     rw[hR]at hp hB
     simp only at hp hB
     have ey:=λb7=>ih (k+1,bs++[⟨W,c,p.funcs[k].a⟩],(d.ld (aQ p).sigs[k]).bF W,b7) ⟨by simp only;omega,by simp[hbs],hd,hdf,hp⟩ (by simp only;omega)
     simp only[List.map_append,List.map_cons,List.map_nil,Bd.row]at ey
     have lg:=λaa=>cu aa ((d.ld (aQ p).sigs[k]).bF W) []
     rw[decide_eq_true (show ((d.ld (aQ p).sigs[k]).bF W).fe=0 from hdf)]at lg
     generalize ((d.ld (aQ p).sigs[k]).bF W).obj=o1 at *
     have w1:aG (cj W)=true:=jc
     have w2:(cj W).view=cj W:=jy
     generalize cj W=FW at *
     have ap:=nc [FW,br c,.int .i64 p.funcs[k].a] rfl
     have c1:aG (b8 9 (Sm.rows c))=true:=cV
     have c2:(b8 9 (Sm.rows c)).view=br c:=rfl
     have c3:=bu c1
     have c4:=cm c1
     have c5:aG (br c)=true:=bE
     generalize b8 9 (Sm.rows c)=MC at *
     generalize br c=SC at *
     generalize aA 4 (p.funcs[k].params.map PD.cells)=PP at *
     generalize br p.funcs[k].body=PB at *
     generalize cj (aQ p).sigs[k].ps=SP at *
     have n1:aG (b8 3 (bs.map Bd.row++[[FW,SC,.int .i64 p.funcs[k].a]]))=true:=cV
     generalize b8 3 (bs.map Bd.row++[[FW,SC,.int .i64 p.funcs[k].a]])=BN at *
     generalize b8 3 (bs.map Bd.row)=BL at *
     generalize p.funcs[k]=fk at *
     generalize (aQ p).sigs[k]=gk at *
     simp[-au,-ag,bH,uE,rE,f3,f4,acW,Ui,Qw,Yk,t4,t5,t6,ps1,ps2,bd1,bd2,sp2,hB,w1,w2,c2,c5,n1,ap,lg,af,AV.view,AV.an,AV.ah,aB,az]
     exact ey _
   ·have iK:k=p.funcs.length:=by omega
    have hR:qj (aQ p) (aQ p).sigs p.funcs=.ok bs:=by
     rw[<-hp,iK,List.drop_length,<-dA,List.drop_length]
     simp[qj,ME]
    rw[hR]
    have n1:aG (b8 3 (bs.map Bd.row))=true:=cV
    have n2:(b8 3 (bs.map Bd.row)).view=aA 3 (bs.map Bd.row):=rfl
    have n3:=bu n1
    have n4:aG (aA 3 (bs.map Bd.row))=true:=aX
    simp only[B5,mS]
    rw[hHS,hHG,hGL]
    generalize b8 3 (bs.map Bd.row)=BL at *
    generalize aA 3 (bs.map Bd.row)=BV at *
    simp[-au,-ag,uE,t1,t2,t3,t4,gl1,gl2,n2,n4,af,AV.view]
end K9
