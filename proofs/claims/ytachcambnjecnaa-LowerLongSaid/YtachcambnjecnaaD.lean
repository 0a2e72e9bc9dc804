/- Part of a proof. -/
import Derived.Test.YtachcambnjecnaaC
import Derived.Test.YtachcambnjecnaaP
import Derived.Test.YtachcambnjecnaaN

set_option maxRecDepth 100000
set_option maxHeartbeats 8000000
namespace K9
open Ax Go Code13 V7 Par Chk
theorem one_es {P:Prop}{es:List E}(h:es.length=1)(hp:∀e,es=[e]->P):P:=by
 match es,h with
 |[e],_=>exact hp e rfl
theorem isStmt_ok (lim:Nat)(c:CK)(s:Sm)(_hn:s.es.length<1000000000):(orcL S).call 0 lim 72 [.ptr 0 0 0 0,.agg s.row] [c.obj]=some (.bool (formT c.sg.has s.k s.es),[c.obj]):=by
 have hrow:=Sm.row_eq s
 have hz:isSz 11 (esV s.es)=true:=isSz_E
 have hsl:isSl (esV s.es)=true:=isSl_esV
 have hvw:(esV s.es).view=esV s.es:=view_esV
 have hrE:rowsL (esV s.es)=E.rows s.es:=rowsL_lstV
 have m0:((s.es.length:Int)=0)=(s.es.length=0):=by simp
 have m1:((s.es.length:Int)=1)=(s.es.length=1):=by apply propext;omega
 have m2:((s.es.length:Int)=2)=(s.es.length=2):=by apply propext;omega
 rw[hrow]
 generalize s.k=k at *
 unfold formT
 by_cases h1:k=1
 ·subst h1
  refine call_run (sf:=s72) rfl rfl rfl ?_
  generalize esV s.es=kv at *
  simp[-a_load,-a_store,s72,hsl,hvw,hrE,AV.view]
 by_cases h4:k=4
 ·subst h4
  refine call_run (sf:=s72) rfl rfl rfl ?_
  simp only[if_neg h1,if_true]
  match hes:s.es,hrE,m2 with
  |[e,e2],hrE,m2=>
   rw[hes]at hz hsl hvw
   simp only[E.rows]at hrE
   rw[E.row_eq e,E.row_eq e2]at hrE
   generalize esV [e,e2]=kv at *
   by_cases q:e.k=5
   ·simp[-a_load,-a_store,s72,a_loadE,hz,hsl,hvw,hrE,q,AV.view]
   ·simp[-a_load,-a_store,s72,a_loadE,hz,hsl,hvw,hrE,q,AV.view]
  |[],hrE,m2=>
   rw[hes]at hz hsl hvw
   generalize esV []=kv at *
   simp[-a_load,-a_store,s72,hsl,hvw,hrE,E.rows,AV.view]
  |[e],hrE,m2=>
   rw[hes]at hz hsl hvw
   simp only[E.rows]at hrE
   generalize esV [e]=kv at *
   simp[-a_load,-a_store,s72,hsl,hvw,hrE,AV.view]
  |e::e2::e3::l,hrE,m2=>
   rw[hes]at hz hsl hvw
   have hl3:¬((E.rows (e::e2::e3::l)).length:Int)=2:=by simp;omega
   generalize esV (e::e2::e3::l)=kv at *
   generalize E.rows (e::e2::e3::l)=rws at *
   simp[-a_load,-a_store,s72,hsl,hvw,hrE,hl3,AV.view]
 by_cases h7:k=7
 ·subst h7
  refine call_run (sf:=s72) rfl rfl rfl ?_
  simp only[if_neg h1,if_neg h4,if_true]
  generalize esV s.es=kv at *
  have hc:=fun wl lim r bx=>c_has (wl:=wl) (lim:=lim) (c:=c) (r:=r) (bx:=bx)
  cases hh:c.sg.has with
  |false=>
   rw[hh]at hc
   by_cases q1:s.es.length=1
   ·simp[-a_load,-a_store,s72,hsl,hvw,hrE,q1,hc,AV.view]
   ·by_cases q0:s.es.length=0
    ·simp[-a_load,-a_store,s72,hsl,hvw,hrE,q0,hc,AV.view]
    ·simp[-a_load,-a_store,s72,hsl,hvw,hrE,m1,q0,q1,AV.view]
  |true=>
   rw[hh]at hc
   by_cases q1:s.es.length=1
   ·simp[-a_load,-a_store,s72,hsl,hvw,hrE,q1,hc,AV.view]
   ·by_cases q0:s.es.length=0
    ·simp[-a_load,-a_store,s72,hsl,hvw,hrE,q0,hc,AV.view]
    ·simp[-a_load,-a_store,s72,hsl,hvw,hrE,m1,q0,q1,AV.view]
 by_cases h9:k=9
 ·subst h9
  refine call_run (sf:=s72) rfl rfl rfl ?_
  simp only[if_neg h1,if_neg h4,if_neg h7,if_true]
  match hes:s.es,hrE,m2 with
  |[e],hrE,m2=>
   rw[hes]at hz hsl hvw
   simp only[E.rows]at hrE
   rw[E.row_eq e]at hrE
   generalize esV [e]=kv at *
   simp[-a_load,-a_store,s72,a_loadE,hz,hsl,hvw,hrE,AV.view]
  |[],hrE,m2=>
   rw[hes]at hz hsl hvw
   generalize esV []=kv at *
   simp[-a_load,-a_store,s72,hsl,hvw,hrE,E.rows,AV.view]
  |e::e2::l,hrE,m2=>
   rw[hes]at hz hsl hvw
   have hl3:¬((E.rows (e::e2::l)).length:Int)=1:=by simp;omega
   generalize esV (e::e2::l)=kv at *
   generalize E.rows (e::e2::l)=rws at *
   simp[-a_load,-a_store,s72,hsl,hvw,hrE,hl3,AV.view]
 refine call_run (sf:=s72) rfl rfl rfl ?_
 simp only[if_neg h1,if_neg h4,if_neg h7,if_neg h9]
 generalize esV s.es=kv at *
 by_cases h2:k=2
 ·subst h2
  simp[-a_load,-a_store,s72,hsl,hvw,hrE,m1,AV.view]
 by_cases h3:k=3
 ·subst h3
  simp[-a_load,-a_store,s72,hsl,hvw,hrE,m1,AV.view]
 by_cases h5:k=5
 ·subst h5
  simp[-a_load,-a_store,s72,hsl,hvw,hrE,m1,AV.view]
 by_cases h6:k=6
 ·subst h6
  simp[-a_load,-a_store,s72,hsl,hvw,hrE,m1,AV.view]
 by_cases h8:k=8
 ·subst h8
  simp[-a_load,-a_store,s72,hsl,hvw,hrE,m1,AV.view]
 simp[-a_load,-a_store,s72,h1,h2,h3,h4,h5,h6,h7,h8,h9,hsl,AV.view]
def FitR (o:Option (Int×List Vd))(v:AV):Prop:=∃z:Int,v=.tup [.int .i64 z,.bool o.isSome]/\∀r W,o=some (r,W)->z=r
def fitC (c:CK)(o:Option (Int×List Vd)):CK:=match o with|some (_,W)=>{ c with V:=W } | none=>c
theorem fits_ok (lim:Nat)(c:CK)(s:Sm)(t:T3)(hs:Small c)(hf:formT c.sg.has s.k s.es=true) :
  ∃v,FitR (fitT c.H c.sg.res c.V s.k s.nm s.es t) v/\(orcL S).call 0 lim 76 [.ptr 0 0 0 0,.agg s.row,.agg [.int .i64 t.b,.int .i64 t.r,.int .i64 t.d]] [c.obj]=some (v,[(fitC c (fitT c.H c.sg.res c.V s.k s.nm s.es t)).obj]):=by
 have eD:=fun lim=>declare_ok lim c s.nm t hs
 have eV:=fun lim=>variable_ok lim c s.nm [] hs
 have eN:=fun wl lim st=>number_ok wl lim st
 have eT:=fun wl lim st=>truth_ok wl lim st
 have hrow:=Sm.row_eq s
 have hz:isSz 11 (esV s.es)=true:=isSz_E
 have hsl:isSl (esV s.es)=true:=isSl_esV
 have hvw:(esV s.es).view=esV s.es:=view_esV
 have hrE:rowsL (esV s.es)=E.rows s.es:=rowsL_lstV
 have one:∀j,s.k=j->(j=2\/j=3\/j=5\/j=6\/j=8)->∃x,s.es=[x]:=fun j hj h=>by
  have hlen:s.es.length=1:=by
   rw[hj]at hf
   rcases h with h|h|h|h|h<;>subst h<;>simpa [formT] using hf
  match hh:s.es,hlen with
  |[x],_=>exact⟨x,rfl⟩
 have hV:=hs.V
 rw[hrow]
 unfold fitT
 by_cases h1:s.k=1
 ·rw[if_pos h1,h1]
  cases hl:lookF s.nm 0 c.V with
  |some x=>
   refine⟨.tup [.int .i64 0,.bool false],⟨0,rfl,fun _ _ h=>by cases h⟩,?_⟩
   rw[hl]at eD
   simp only[declV]at eD
   refine call_run (sf:=s76) rfl rfl rfl ?_
   generalize esV s.es=kv at *
   simp[-a_load,-a_store,s76,eD,hsl,fitC,AV.view]
  |none=>
   refine⟨.tup [.int .i64 c.V.length,.bool true],⟨c.V.length,rfl,fun _ _ h=>by cases h;rfl⟩,?_⟩
   rw[hl]at eD
   simp only[declV]at eD
   simp only[fitC]
   refine call_run (sf:=s76) rfl rfl rfl ?_
   generalize esV s.es=kv at *
   generalize ({ c with V:=c.V++[(⟨s.nm,t⟩:Vd)] }:CK).obj=ob2 at *
   simp[-a_load,-a_store,s76,eD,hsl,AV.view]
 rw[if_neg h1]
 by_cases h2:s.k=2
 ·obtain⟨x,hx⟩:=one 2 h2 (by simp)
  rw[if_pos h2,h2]
  have a1:ty1 s.es=x.ty:=by rw[hx];rfl
  rw[a1]
  rw[show E.rows s.es=E.rows [x] from by rw[hx]]at hrE
  simp only[E.rows,E.row_eq]at hrE
  generalize esV s.es=kv at *
  by_cases q:x.ty=t
  ·rw[if_pos q]
   rw[<-q]at eD ⊢
   cases hl:lookF s.nm 0 c.V with
   |some y=>
    refine⟨.tup [.int .i64 0,.bool false],⟨0,rfl,fun _ _ h=>by cases h⟩,?_⟩
    rw[hl]at eD
    simp only[declV]at eD
    refine call_run (sf:=s76) rfl rfl rfl ?_
    simp[-a_load,-a_store,s76,eD,hz,hsl,hvw,hrE,a_loadE,fitC,AV.view,W_draw0,noBoxes]
   |none=>
    refine⟨.tup [.int .i64 c.V.length,.bool true],⟨c.V.length,rfl,fun _ _ h=>by cases h;rfl⟩,?_⟩
    rw[hl]at eD
    simp only[declV]at eD
    simp only[fitC]
    refine call_run (sf:=s76) rfl rfl rfl ?_
    generalize ({ c with V:=c.V++[(⟨s.nm,x.ty⟩:Vd)] }:CK).obj=ob2 at *
    simp[-a_load,-a_store,s76,eD,hz,hsl,hvw,hrE,a_loadE,AV.view,W_draw0,noBoxes]
  ·rw[if_neg q]
   refine⟨.tup [.int .i64 0,.bool false],⟨0,rfl,fun _ _ h=>by cases h⟩,?_⟩
   refine call_run (sf:=s76) rfl rfl rfl ?_
   simp[-a_load,-a_store,s76,hz,hsl,hvw,hrE,a_loadE,dU,q,fitC,AV.view,W_draw0,noBoxes]
 rw[if_neg h2]
 by_cases h3:s.k=3
 ·obtain⟨x,hx⟩:=one 3 h3 (by simp)
  rw[if_pos h3,h3]
  have a1:ty1 s.es=x.ty:=by rw[hx];rfl
  rw[a1]
  rw[show E.rows s.es=E.rows [x] from by rw[hx]]at hrE
  simp only[E.rows,E.row_eq]at hrE
  generalize esV s.es=kv at *
  cases hv:varT c.H c.V s.nm with
  |none=>
   refine⟨.tup [.int .i64 0,.bool false],⟨0,rfl,fun _ _ h=>by cases h⟩,?_⟩
   rw[hv]at eV
   simp only[varV]at eV
   refine call_run (sf:=s76) rfl rfl rfl ?_
   simp[-a_load,-a_store,s76,eV,hsl,fitC,paste,AV.view,W_draw0,noBoxes]
  |some y=>
   obtain⟨u,r⟩:=y
   rw[hv]at eV
   simp only[varV]at eV
   by_cases q:u=x.ty
   ·refine⟨.tup [.int .i64 r,.bool true],⟨r,by simp[q],fun _ _ h=>by simp[q]at h;exact h.1⟩,?_⟩
    simp only[if_pos q]
    refine call_run (sf:=s76) rfl rfl rfl ?_
    simp[-a_load,-a_store,s76,eV,hz,hsl,hvw,hrE,a_loadE,q,fitC,paste,AV.view,W_draw0,noBoxes]
   ·refine⟨.tup [.int .i64 r,.bool false],⟨r,by simp[q],fun _ _ h=>by simp[q]at h⟩,?_⟩
    simp only[if_neg q]
    refine call_run (sf:=s76) rfl rfl rfl ?_
    simp[-a_load,-a_store,s76,eV,hz,hsl,hvw,hrE,a_loadE,dU,q,fitC,paste,AV.view,W_draw0,noBoxes]
 rw[if_neg h3]
 have fin:∀(p:Prop) [Decidable p],FitR (if p then some ((0:Int),c.V) else none) (.tup [.int .i64 0,.bool (decide p)]):=fun p _=>by
  refine⟨0,?_,fun r W h=>?_⟩
  ·by_cases q:p<;>simp[q]
  ·split at h<;>cases h;rfl
 have finC:∀(p:Prop) [Decidable p],fitC c (if p then some ((0:Int),c.V) else none)=c:=fun p _=>by
  by_cases q:p<;>simp[q,fitC]
 by_cases h4:s.k=4
 ·rw[if_pos h4,h4]
  obtain⟨x,y,hx⟩:∃x y,s.es=[x,y]:=by
   rw[h4]at hf
   unfold formT at hf
   match hh:s.es,hf with
   |[x,y],_=>exact⟨x,y,rfl⟩
  have a1:ty1 s.es=x.ty:=by rw[hx];rfl
  have a2:ty2 s.es=y.ty:=by rw[hx];rfl
  rw[a1,a2]
  rw[show E.rows s.es=E.rows [x,y] from by rw[hx]]at hrE
  simp only[E.rows,E.row_eq]at hrE
  generalize esV s.es=kv at *
  refine⟨_,fin _,?_⟩
  rw[finC]
  refine call_run (sf:=s76) rfl rfl rfl ?_
  simp[-a_load,-a_store,s76,hz,hsl,hvw,hrE,a_loadE,dU,AV.view,W_draw0,noBoxes]
 rw[if_neg h4]
 by_cases h5:s.k=5
 ·obtain⟨x,hx⟩:=one 5 h5 (by simp)
  rw[if_pos (.inl h5),h5]
  have a1:ty1 s.es=x.ty:=by rw[hx];rfl
  rw[a1]
  rw[show E.rows s.es=E.rows [x] from by rw[hx]]at hrE
  simp only[E.rows,E.row_eq]at hrE
  generalize esV s.es=kv at *
  refine⟨_,fin _,?_⟩
  rw[finC]
  refine call_run (sf:=s76) rfl rfl rfl ?_
  simp[-a_load,-a_store,s76,hz,hsl,hvw,hrE,a_loadE,eT,dB,AV.view,W_draw0,noBoxes]
 by_cases h6:s.k=6
 ·obtain⟨x,hx⟩:=one 6 h6 (by simp)
  rw[if_pos (.inr h6),h6]
  have a1:ty1 s.es=x.ty:=by rw[hx];rfl
  rw[a1]
  rw[show E.rows s.es=E.rows [x] from by rw[hx]]at hrE
  simp only[E.rows,E.row_eq]at hrE
  generalize esV s.es=kv at *
  refine⟨_,fin _,?_⟩
  rw[finC]
  refine call_run (sf:=s76) rfl rfl rfl ?_
  simp[-a_load,-a_store,s76,hz,hsl,hvw,hrE,a_loadE,eT,dB,AV.view,W_draw0,noBoxes]
 rw[if_neg (fun h=>h.elim h5 h6)]
 by_cases h7:s.k=7
 ·rw[if_pos h7,h7]
  refine⟨_,fin _,?_⟩
  rw[finC]
  rw[h7]at hf
  refine call_run (sf:=s76) rfl rfl rfl ?_
  match hes:s.es with
  |[]=>
   rw[hes]at hz hsl hvw hrE
   generalize esV []=kv at *
   simp[-a_load,-a_store,s76,hsl,hvw,hrE,E.rows,AV.view,W_draw0,noBoxes]
  |[x]=>
   rw[hes]at hz hsl hvw hrE
   simp only[E.rows,E.row_eq]at hrE
   generalize esV [x]=kv at *
   have a1:ty1 [x]=x.ty:=rfl
   have cr:=fun wl lim r bx=>c_res (wl:=wl) (lim:=lim) (c:=c) (r:=r) (bx:=bx)
   simp[-a_load,-a_store,s76,hz,hsl,hvw,hrE,a_loadE,cr,dU,a1,AV.view,W_draw0,noBoxes]
  |x::y::l=>
   rw[hes]at hf
   simp[formT]at hf
 rw[if_neg h7]
 by_cases h8:s.k=8
 ·obtain⟨x,hx⟩:=one 8 h8 (by simp)
  rw[if_pos h8,h8]
  have a1:ty1 s.es=x.ty:=by rw[hx];rfl
  rw[a1]
  rw[show E.rows s.es=E.rows [x] from by rw[hx]]at hrE
  simp only[E.rows,E.row_eq]at hrE
  generalize esV s.es=kv at *
  refine⟨_,fin _,?_⟩
  rw[finC]
  refine call_run (sf:=s76) rfl rfl rfl ?_
  simp[-a_load,-a_store,s76,hz,hsl,hvw,hrE,a_loadE,eN,dI,AV.view,W_draw0,noBoxes]
 rw[if_neg h8]
 refine⟨.tup [.int .i64 0,.bool true],⟨0,rfl,fun _ _ h=>by cases h;rfl⟩,?_⟩
 simp only[fitC]
 refine call_run (sf:=s76) rfl rfl rfl ?_
 generalize esV s.es=kv at *
 simp[-a_load,-a_store,s76,h1,h2,h3,h4,h5,h6,h7,h8,hsl,AV.view]
end K9
namespace K9
open Ax Go Code13 V7 Par Chk
def CK.setV (c:CK)(W:List Vd):CK:={ c with V:=W }
def BadRow (r:List AV):Prop:=∃(k:Int)(nm on:List UInt8)(od:Int)(es bd el:AV)(a ref:Int),r=[.int .i64 k,.str nm,.str on,.int .i64 od,es,bd,el,.int .i64 a,.int .i64 ref]/\isSl es=true/\isSl bd=true/\isSl el=true
abbrev Z9:List AV:=[.int .i64 0,.str [],.str [],.int .i64 0,.nilSl,.nilSl,.nilSl,.int .i64 0,.int .i64 0]
theorem bad0:BadRow Z9:=⟨0,[],[],0,.nilSl,.nilSl,.nilSl,0,0,rfl,rfl,rfl,rfl⟩
def OkS (c:CK)(s:Sm):Prop:=match ckS c.H c.sg.has c.sg.res c.V s with
 |.ok (y,W)=>∀lim,(orcL S).call 0 lim 59 [.ptr 0 0 0 0,.agg s.row] [c.obj]=some (.agg y.row,[(c.setV W).obj])
 |.error a=>∀lim,∃W row,BadRow row/\(orcL S).call 0 lim 59 [.ptr 0 0 0 0,.agg s.row] [c.obj]=some (.agg row,[((c.setV W).fail a).obj])
def OkB (c:CK)(l:List Sm):Prop:=match ckB c.H c.sg.has c.sg.res c.V l with
 |.ok (ys,W)=>∀lim,(orcL S).call 0 lim 43 [.ptr 0 0 0 0,ssV l] [c.obj]=some (mkL 9 (Sm.rows ys),[(c.setV W).obj])
 |.error a=>∀lim,∃W v,isSl v=true/\(orcL S).call 0 lim 43 [.ptr 0 0 0 0,ssV l] [c.obj]=some (v,[((c.setV W).fail a).obj])
theorem way_set {c:CK}{W:List Vd}(h:Way c)(hW:∀f∈W,WT c.H.rs.length f.ty)(hl:W.length<1000000000):Way (c.setV W):=⟨⟨hl,h.s.G,h.s.S,h.s.R,h.s.F,h.s.P⟩,h.H,hW⟩
theorem blockF_ok (lim:Nat)(c:CK)(l:List Sm)(hf:c.fe≠0)(hn:l.length<1000000000):(orcL S).call 0 lim 43 [.ptr 0 0 0 0,ssV l] [c.obj]=some (.nilSl,[c.obj]):=by
 have hz:isSz 9 (ssV l)=true:=isSz_Sm
 have hsl:isSl (ssV l)=true:=isSl_ssV
 have hvw:(ssV l).view=ssV l:=view_ssV
 have hrE:rowsL (ssV l)=Sm.rows l:=rowsL_lstV
 have eok2:=fun lim=>failed_ok lim c []
 rw[decide_eq_false hf]at eok2
 refine call_run (sf:=s43) rfl rfl rfl ?_
 cases l with
 |nil=>
  generalize ssV []=lv at *
  rw[Sm.rows]at hrE
  simp[-a_load,-a_store,s43,hsl,hvw,hrE]
  rw[W_round s43_l0.eq_1]
  simp[-a_load,-a_store]
 |cons s l=>
  have hlen:0<(Sm.rows (s::l)).length:=by simp
  have hg:(Sm.rows (s::l))[0]?=some s.row:=by simp[Sm.rows]
  have hg':∀h:0<(Sm.rows (s::l)).length,(Sm.rows (s::l))[0]=s.row:=fun h=>by simp[Sm.rows]
  generalize ssV (s::l)=lv at *
  generalize Sm.rows (s::l)=rws at *
  rw[Sm.row_eq]at hg
  have hlen':0<rws.length:=hlen
  have hg'':=hg' hlen'
  rw[Sm.row_eq]at hg''
  simp[-a_load,-a_store,s43,hsl,hvw,hrE]
  rw[W_round s43_l0.eq_1]
  simp[-a_load,-a_store,hvw,hrE,hz,hlen',hg'',a_loadE,eok2,paste,AV.view]
theorem fits_mk (lim:Nat)(c:CK)(k:Int)(nm on:List UInt8)(od:Int)(ys:List E)(a:Int)(t:T3)(hs:Small c)(hf:formT c.sg.has k ys=true) :
  ∃v,FitR (fitT c.H c.sg.res c.V k nm ys t) v/\(orcL S).call 0 lim 76 [.ptr 0 0 0 0,.agg (Sm.mk k nm on od ys [] [] a 0).row,.agg [.int .i64 t.b,.int .i64 t.r,.int .i64 t.d]] [c.obj]=some (v,[(fitC c (fitT c.H c.sg.res c.V k nm ys t)).obj]):=
 fits_ok lim c (.mk k nm on od ys [] [] a 0) t hs hf
theorem stmt_F (c:CK)(s:Sm)(hn:s.es.length<1000000000)(h:formT c.sg.has s.k s.es=false):OkS c s:=by
 unfold OkS
 rw[ckS_eq,h]
 simp only[Bool.false_eq_true,if_false]
 intro lim
 refine⟨c.V,Z9,bad0,?_⟩
 have est:=fun lim=>isStmt_ok lim c s hn
 rw[h]at est
 have en:=fun wl lim st=>none_ok wl lim st
 have efl:=fun lim=>fail_ok lim c s.a []
 have hcs:c.setV c.V=c:=rfl
 rw[hcs]
 rw[Sm.row_eq s]at est ⊢
 generalize (c.fail s.a).obj=o at *
 refine call_run (sf:=s59) rfl rfl rfl ?_
 simp[-a_load,-a_store,s59,est,en,efl,paste,AV.view,AV.isPure,AV.allPure,W_drawB,boxOk]
theorem stmt_1 (c:CK)(s:Sm)(hf:c.fe=0)(hw:Way c)(hsz:c.V.length+Sm.sz s<1000000000)(hk:s.k=1)(h:formT c.sg.has s.k s.es=true):OkS c s:=by
 unfold OkS
 have hz:=Sm.sz_eq s
 have hel:=E.szs_len s.es
 have est:=fun lim=>isStmt_ok lim c s (by omega)
 rw[h]at est
 have en:=fun wl lim st=>none_ok wl lim st
 have efl:=fun lim=>fail_ok lim c s.a []
 have eok:=fun lim=>failed_ok lim c []
 rw[decide_eq_true hf]at eok
 have hcs:c.setV c.V=c:=rfl
 have hrow:=Sm.row_eq s
 rw[hk]at hrow
 rw[ckS_eq,h]
 rw[hk]at h ⊢
 simp only[if_true]
 rw[hrow]at est ⊢
 have e1:isSl (esV s.es)=true:=isSl_esV
 have e2:(esV s.es).view=esV s.es:=view_esV
 have b1:isSl (ssV s.bd)=true:=isSl_ssV
 have b2:(ssV s.bd).view=ssV s.bd:=view_ssV
 have l1:isSl (ssV s.el)=true:=isSl_ssV
 have l2:(ssV s.el).view=ssV s.el:=view_ssV
 have hval:=values_ok c s.es hf (by omega) (fun e he=>expr_ok c hf hw e (by have:=E.szs_mem he;omega))
 have hes9:esT c.H c.V 1 s.es=ckV c.H c.V s.es:=esT_ne (by decide)
 have ety:=fun wl lim st=>type_ok wl lim c.H.rs s.on s.od st hw.s.R
 have hdT:declT c.H 1 s.on s.od=if (typeT c.H.rs s.on s.od).2 then some (typeT c.H.rs s.on s.od).1 else none:=if_pos (by decide)
 rw[hdT]
 unfold tyV at ety
 have hwt:=type_wt c.H.rs s.on s.od
 generalize typeT c.H.rs s.on s.od=tt at *
 obtain⟨t,b⟩:=tt
 cases b with
 |false=>
  simp only[Bool.false_eq_true,if_false]
  intro lim
  refine⟨c.V,Z9,bad0,?_⟩
  rw[hcs]
  simp only at ety
  generalize esV s.es=ev at *
  generalize ssV s.bd=bv at *
  generalize ssV s.el=lv at *
  generalize (c.fail s.a).obj=o at *
  refine call_run (sf:=s59) rfl rfl rfl ?_
  simp[-a_load,-a_store,s59,est,en,e1,e2,b1,b2,l1,l2,c_rc,ety,efl,paste,AV.view,AV.isPure,AV.allPure,W_draw0,W_drawB,boxOk,noBoxes]
 |true=>
 simp only[if_true]
 simp only at ety
 rw[hes9]
 cases hv:ckV c.H c.V s.es with
 |error a=>
  rw[hv]at hval
  simp only at hval ⊢
  intro lim
  refine⟨c.V,Z9,bad0,?_⟩
  rw[hcs]
  obtain⟨v,hsl,ev⟩:=hval 1
  have hvc:=isCell_sl hsl
  have hvp:=pure_sl hsl
  have eok2:=fun lim=>failed_ok lim (c.fail a) []
  rw[decide_eq_false fail_fe]at eok2
  generalize esV s.es=kv at *
  generalize ssV s.bd=bv at *
  generalize ssV s.el=lv at *
  generalize (c.fail a).obj=o at *
  refine call_run (sf:=s59) rfl rfl rfl ?_
  simp[-a_load,-a_store,s59,est,en,e1,e2,b1,b2,l1,l2,c_rc,ety,ev,hsl,eok2,paste,AV.view,AV.isPure,AV.allPure,W_draw0,W_drawB,boxOk,noBoxes]
 |ok ys=>
  rw[hv]at hval
  simp only at hval ⊢
  have hform:formT c.sg.has 1 ys=true:=ckV_form hv h
  obtain⟨fv,⟨z,rfl,hzr⟩,efit⟩:=fits_mk 1 c 1 (keptS 1 s.nm) (keptSn 1 s.on) (keptSd 1 s.od) ys s.a t hw.s hform
  simp only[fit_kept]at hzr efit
  have hrx:(Sm.mk 1 (keptS 1 s.nm) (keptSn 1 s.on) (keptSd 1 s.od) ys [] [] s.a 0).row=[.int .i64 1,.str s.nm,.str s.on,.int .i64 s.od,esV ys,.nilSl,.nilSl,.int .i64 s.a,.int .i64 0]:=by simp[Sm.row,Sm.rows,keptS,keptSn,keptSd]
  rw[hrx]at efit
  have m1:isSl (mkL 11 (E.rows ys))=true:=isSl_mk
  have m2:(mkL 11 (E.rows ys)).view=esV ys:=rfl
  generalize mkL 11 (E.rows ys)=mv at *
  have m3:=isCell_sl m1
  have m4:=pure_sl m1
  have y1:isSl (esV ys)=true:=isSl_esV
  have y2:(esV ys).view=esV ys:=view_esV
  generalize hyv:esV ys=yv at *
  generalize esV s.es=kv at *
  cases hT:fitT c.H c.sg.res c.V 1 s.nm ys t with
  |none=>
   simp only
   intro lim
   refine⟨c.V,Z9,bad0,?_⟩
   rw[hcs]
   rw[hT]at efit
   simp only[Option.isSome_none,fitC]at efit
   generalize ssV s.bd=bv at *
   generalize ssV s.el=lv at *
   generalize (c.fail s.a).obj=o at *
   refine call_run (sf:=s59) rfl rfl rfl ?_
   simp[-a_load,-a_store,s59,est,en,e1,e2,b1,b2,l1,l2,c_rc,ety,hval,m1,m2,eok,efit,efl,paste,AV.view,AV.isPure,AV.allPure,W_draw0,W_drawB,boxOk,noBoxes]
  |some x=>
   obtain⟨r,W⟩:=x
   have hzr:=hzr r W hT
   subst hzr
   rw[hT]at efit
   simp only[Option.isSome_some,fitC]at efit
   have hcW:({ c with V:=W }:CK)=c.setV W:=rfl
   rw[hcW]at efit
   simp only[show ¬((1:Int)=5) from by decide,show ¬((1:Int)=6) from by decide,if_false]
   intro lim
   have hrr:(Sm.mk 1 (keptS 1 s.nm) (keptSn 1 s.on) (keptSd 1 s.od) ys [] [] s.a z).row=[.int .i64 1,.str s.nm,.str s.on,.int .i64 s.od,yv,.nilSl,.nilSl,.int .i64 s.a,.int .i64 z]:=by simp[Sm.row,Sm.rows,keptS,keptSn,keptSd,hyv]
   show _=some (AV.agg (Sm.mk 1 (keptS 1 s.nm) (keptSn 1 s.on) (keptSd 1 s.od) ys [] [] s.a z).row,_)
   rw[hrr]
   generalize ssV s.bd=bv at *
   generalize ssV s.el=lv at *
   generalize (c.setV W).obj=o at *
   refine call_run (sf:=s59) rfl rfl rfl ?_
   simp[-a_load,-a_store,s59,est,en,e1,e2,b1,b2,l1,l2,c_rc,ety,hval,m1,m2,y1,eok,efit,paste,AV.view,AV.isPure,AV.allPure,W_draw0,W_drawB,boxOk,noBoxes]
theorem stmt_2 (c:CK)(s:Sm)(hf:c.fe=0)(hw:Way c)(hsz:c.V.length+Sm.sz s<1000000000)(hk:s.k=2)(h:formT c.sg.has s.k s.es=true):OkS c s:=by
 unfold OkS
 have hz:=Sm.sz_eq s
 have hel:=E.szs_len s.es
 have est:=fun lim=>isStmt_ok lim c s (by omega)
 rw[h]at est
 have en:=fun wl lim st=>none_ok wl lim st
 have efl:=fun lim=>fail_ok lim c s.a []
 have eok:=fun lim=>failed_ok lim c []
 rw[decide_eq_true hf]at eok
 have hcs:c.setV c.V=c:=rfl
 have hrow:=Sm.row_eq s
 rw[hk]at hrow
 rw[ckS_eq,h]
 rw[hk]at h ⊢
 simp only[if_true]
 rw[hrow]at est ⊢
 have e1:isSl (esV s.es)=true:=isSl_esV
 have e2:(esV s.es).view=esV s.es:=view_esV
 have b1:isSl (ssV s.bd)=true:=isSl_ssV
 have b2:(ssV s.bd).view=ssV s.bd:=view_ssV
 have l1:isSl (ssV s.el)=true:=isSl_ssV
 have l2:(ssV s.el).view=ssV s.el:=view_ssV
 have hval:=values_ok c s.es hf (by omega) (fun e he=>expr_ok c hf hw e (by have:=E.szs_mem he;omega))
 have hes9:esT c.H c.V 2 s.es=ckV c.H c.V s.es:=esT_ne (by decide)
 have ety:=fun wl lim st=>type_ok wl lim c.H.rs s.on s.od st hw.s.R
 have hdT:declT c.H 2 s.on s.od=if (typeT c.H.rs s.on s.od).2 then some (typeT c.H.rs s.on s.od).1 else none:=if_pos (by decide)
 rw[hdT]
 unfold tyV at ety
 have hwt:=type_wt c.H.rs s.on s.od
 generalize typeT c.H.rs s.on s.od=tt at *
 obtain⟨t,b⟩:=tt
 cases b with
 |false=>
  simp only[Bool.false_eq_true,if_false]
  intro lim
  refine⟨c.V,Z9,bad0,?_⟩
  rw[hcs]
  simp only at ety
  generalize esV s.es=ev at *
  generalize ssV s.bd=bv at *
  generalize ssV s.el=lv at *
  generalize (c.fail s.a).obj=o at *
  refine call_run (sf:=s59) rfl rfl rfl ?_
  simp[-a_load,-a_store,s59,est,en,e1,e2,b1,b2,l1,l2,c_rc,ety,efl,paste,AV.view,AV.isPure,AV.allPure,W_draw0,W_drawB,boxOk,noBoxes]
 |true=>
 simp only[if_true]
 simp only at ety
 rw[hes9]
 cases hv:ckV c.H c.V s.es with
 |error a=>
  rw[hv]at hval
  simp only at hval ⊢
  intro lim
  refine⟨c.V,Z9,bad0,?_⟩
  rw[hcs]
  obtain⟨v,hsl,ev⟩:=hval 1
  have hvc:=isCell_sl hsl
  have hvp:=pure_sl hsl
  have eok2:=fun lim=>failed_ok lim (c.fail a) []
  rw[decide_eq_false fail_fe]at eok2
  generalize esV s.es=kv at *
  generalize ssV s.bd=bv at *
  generalize ssV s.el=lv at *
  generalize (c.fail a).obj=o at *
  refine call_run (sf:=s59) rfl rfl rfl ?_
  simp[-a_load,-a_store,s59,est,en,e1,e2,b1,b2,l1,l2,c_rc,ety,ev,hsl,eok2,paste,AV.view,AV.isPure,AV.allPure,W_draw0,W_drawB,boxOk,noBoxes]
 |ok ys=>
  rw[hv]at hval
  simp only at hval ⊢
  have hform:formT c.sg.has 2 ys=true:=ckV_form hv h
  obtain⟨fv,⟨z,rfl,hzr⟩,efit⟩:=fits_mk 1 c 2 (keptS 2 s.nm) (keptSn 2 s.on) (keptSd 2 s.od) ys s.a t hw.s hform
  simp only[fit_kept]at hzr efit
  have hrx:(Sm.mk 2 (keptS 2 s.nm) (keptSn 2 s.on) (keptSd 2 s.od) ys [] [] s.a 0).row=[.int .i64 2,.str s.nm,.str s.on,.int .i64 s.od,esV ys,.nilSl,.nilSl,.int .i64 s.a,.int .i64 0]:=by simp[Sm.row,Sm.rows,keptS,keptSn,keptSd]
  rw[hrx]at efit
  have m1:isSl (mkL 11 (E.rows ys))=true:=isSl_mk
  have m2:(mkL 11 (E.rows ys)).view=esV ys:=rfl
  generalize mkL 11 (E.rows ys)=mv at *
  have m3:=isCell_sl m1
  have m4:=pure_sl m1
  have y1:isSl (esV ys)=true:=isSl_esV
  have y2:(esV ys).view=esV ys:=view_esV
  generalize hyv:esV ys=yv at *
  generalize esV s.es=kv at *
  cases hT:fitT c.H c.sg.res c.V 2 s.nm ys t with
  |none=>
   simp only
   intro lim
   refine⟨c.V,Z9,bad0,?_⟩
   rw[hcs]
   rw[hT]at efit
   simp only[Option.isSome_none,fitC]at efit
   generalize ssV s.bd=bv at *
   generalize ssV s.el=lv at *
   generalize (c.fail s.a).obj=o at *
   refine call_run (sf:=s59) rfl rfl rfl ?_
   simp[-a_load,-a_store,s59,est,en,e1,e2,b1,b2,l1,l2,c_rc,ety,hval,m1,m2,eok,efit,efl,paste,AV.view,AV.isPure,AV.allPure,W_draw0,W_drawB,boxOk,noBoxes]
  |some x=>
   obtain⟨r,W⟩:=x
   have hzr:=hzr r W hT
   subst hzr
   rw[hT]at efit
   simp only[Option.isSome_some,fitC]at efit
   have hcW:({ c with V:=W }:CK)=c.setV W:=rfl
   rw[hcW]at efit
   simp only[show ¬((2:Int)=5) from by decide,show ¬((2:Int)=6) from by decide,if_false]
   intro lim
   have hrr:(Sm.mk 2 (keptS 2 s.nm) (keptSn 2 s.on) (keptSd 2 s.od) ys [] [] s.a z).row=[.int .i64 2,.str s.nm,.str s.on,.int .i64 s.od,yv,.nilSl,.nilSl,.int .i64 s.a,.int .i64 z]:=by simp[Sm.row,Sm.rows,keptS,keptSn,keptSd,hyv]
   show _=some (AV.agg (Sm.mk 2 (keptS 2 s.nm) (keptSn 2 s.on) (keptSd 2 s.od) ys [] [] s.a z).row,_)
   rw[hrr]
   generalize ssV s.bd=bv at *
   generalize ssV s.el=lv at *
   generalize (c.setV W).obj=o at *
   refine call_run (sf:=s59) rfl rfl rfl ?_
   simp[-a_load,-a_store,s59,est,en,e1,e2,b1,b2,l1,l2,c_rc,ety,hval,m1,m2,y1,eok,efit,paste,AV.view,AV.isPure,AV.allPure,W_draw0,W_drawB,boxOk,noBoxes]
theorem stmt_3 (c:CK)(s:Sm)(hf:c.fe=0)(hw:Way c)(hsz:c.V.length+Sm.sz s<1000000000)(hk:s.k=3)(h:formT c.sg.has s.k s.es=true):OkS c s:=by
 unfold OkS
 have hz:=Sm.sz_eq s
 have hel:=E.szs_len s.es
 have est:=fun lim=>isStmt_ok lim c s (by omega)
 rw[h]at est
 have en:=fun wl lim st=>none_ok wl lim st
 have efl:=fun lim=>fail_ok lim c s.a []
 have eok:=fun lim=>failed_ok lim c []
 rw[decide_eq_true hf]at eok
 have hcs:c.setV c.V=c:=rfl
 have hrow:=Sm.row_eq s
 rw[hk]at hrow
 rw[ckS_eq,h]
 rw[hk]at h ⊢
 simp only[if_true]
 rw[hrow]at est ⊢
 have e1:isSl (esV s.es)=true:=isSl_esV
 have e2:(esV s.es).view=esV s.es:=view_esV
 have b1:isSl (ssV s.bd)=true:=isSl_ssV
 have b2:(ssV s.bd).view=ssV s.bd:=view_ssV
 have l1:isSl (ssV s.el)=true:=isSl_ssV
 have l2:(ssV s.el).view=ssV s.el:=view_ssV
 have hval:=values_ok c s.es hf (by omega) (fun e he=>expr_ok c hf hw e (by have:=E.szs_mem he;omega))
 have hes9:esT c.H c.V 3 s.es=ckV c.H c.V s.es:=esT_ne (by decide)
 have hdT:declT c.H 3 s.on s.od=some T0:=if_neg (by decide)
 rw[hdT]
 simp only
 rw[hes9]
 cases hv:ckV c.H c.V s.es with
 |error a=>
  rw[hv]at hval
  simp only at hval ⊢
  intro lim
  refine⟨c.V,Z9,bad0,?_⟩
  rw[hcs]
  obtain⟨v,hsl,ev⟩:=hval 1
  have hvc:=isCell_sl hsl
  have hvp:=pure_sl hsl
  have eok2:=fun lim=>failed_ok lim (c.fail a) []
  rw[decide_eq_false fail_fe]at eok2
  generalize esV s.es=kv at *
  generalize ssV s.bd=bv at *
  generalize ssV s.el=lv at *
  generalize (c.fail a).obj=o at *
  refine call_run (sf:=s59) rfl rfl rfl ?_
  simp[-a_load,-a_store,s59,est,en,e1,e2,b1,b2,l1,l2,ev,hsl,eok2,paste,AV.view,AV.isPure,AV.allPure,W_drawB,boxOk]
 |ok ys=>
  rw[hv]at hval
  simp only at hval ⊢
  have hform:formT c.sg.has 3 ys=true:=ckV_form hv h
  obtain⟨fv,⟨z,rfl,hzr⟩,efit⟩:=fits_mk 1 c 3 (keptS 3 s.nm) (keptSn 3 s.on) (keptSd 3 s.od) ys s.a T0 hw.s hform
  simp only[fit_kept]at hzr efit
  have hrx:(Sm.mk 3 (keptS 3 s.nm) (keptSn 3 s.on) (keptSd 3 s.od) ys [] [] s.a 0).row=[.int .i64 3,.str s.nm,.str [],.int .i64 0,esV ys,.nilSl,.nilSl,.int .i64 s.a,.int .i64 0]:=by simp[Sm.row,Sm.rows,keptS,keptSn,keptSd]
  rw[hrx]at efit
  have m1:isSl (mkL 11 (E.rows ys))=true:=isSl_mk
  have m2:(mkL 11 (E.rows ys)).view=esV ys:=rfl
  generalize mkL 11 (E.rows ys)=mv at *
  have m3:=isCell_sl m1
  have m4:=pure_sl m1
  have y1:isSl (esV ys)=true:=isSl_esV
  have y2:(esV ys).view=esV ys:=view_esV
  generalize hyv:esV ys=yv at *
  generalize esV s.es=kv at *
  cases hT:fitT c.H c.sg.res c.V 3 s.nm ys T0 with
  |none=>
   simp only
   intro lim
   refine⟨c.V,Z9,bad0,?_⟩
   rw[hcs]
   rw[hT]at efit
   simp only[Option.isSome_none,fitC]at efit
   generalize ssV s.bd=bv at *
   generalize ssV s.el=lv at *
   generalize (c.fail s.a).obj=o at *
   refine call_run (sf:=s59) rfl rfl rfl ?_
   simp[-a_load,-a_store,s59,est,en,e1,e2,b1,b2,l1,l2,hval,m1,m2,eok,efit,efl,paste,AV.view,AV.isPure,AV.allPure,W_drawB,boxOk]
  |some x=>
   obtain⟨r,W⟩:=x
   have hzr:=hzr r W hT
   subst hzr
   rw[hT]at efit
   simp only[Option.isSome_some,fitC]at efit
   have hcW:({ c with V:=W }:CK)=c.setV W:=rfl
   rw[hcW]at efit
   simp only[show ¬((3:Int)=5) from by decide,show ¬((3:Int)=6) from by decide,if_false]
   intro lim
   have hrr:(Sm.mk 3 (keptS 3 s.nm) (keptSn 3 s.on) (keptSd 3 s.od) ys [] [] s.a z).row=[.int .i64 3,.str s.nm,.str [],.int .i64 0,yv,.nilSl,.nilSl,.int .i64 s.a,.int .i64 z]:=by simp[Sm.row,Sm.rows,keptS,keptSn,keptSd,hyv]
   show _=some (AV.agg (Sm.mk 3 (keptS 3 s.nm) (keptSn 3 s.on) (keptSd 3 s.od) ys [] [] s.a z).row,_)
   rw[hrr]
   generalize ssV s.bd=bv at *
   generalize ssV s.el=lv at *
   generalize (c.setV W).obj=o at *
   refine call_run (sf:=s59) rfl rfl rfl ?_
   simp[-a_load,-a_store,s59,est,en,e1,e2,b1,b2,l1,l2,hval,m1,m2,y1,eok,efit,paste,AV.view,AV.isPure,AV.allPure,W_drawB,boxOk]
theorem stmt_4 (c:CK)(s:Sm)(hf:c.fe=0)(hw:Way c)(hsz:c.V.length+Sm.sz s<1000000000)(hk:s.k=4)(h:formT c.sg.has s.k s.es=true):OkS c s:=by
 unfold OkS
 have hz:=Sm.sz_eq s
 have hel:=E.szs_len s.es
 have est:=fun lim=>isStmt_ok lim c s (by omega)
 rw[h]at est
 have en:=fun wl lim st=>none_ok wl lim st
 have efl:=fun lim=>fail_ok lim c s.a []
 have eok:=fun lim=>failed_ok lim c []
 rw[decide_eq_true hf]at eok
 have hcs:c.setV c.V=c:=rfl
 have hrow:=Sm.row_eq s
 rw[hk]at hrow
 rw[ckS_eq,h]
 rw[hk]at h ⊢
 simp only[if_true]
 rw[hrow]at est ⊢
 have e1:isSl (esV s.es)=true:=isSl_esV
 have e2:(esV s.es).view=esV s.es:=view_esV
 have b1:isSl (ssV s.bd)=true:=isSl_ssV
 have b2:(ssV s.bd).view=ssV s.bd:=view_ssV
 have l1:isSl (ssV s.el)=true:=isSl_ssV
 have l2:(ssV s.el).view=ssV s.el:=view_ssV
 have hval:=values_ok c s.es hf (by omega) (fun e he=>expr_ok c hf hw e (by have:=E.szs_mem he;omega))
 have hes9:esT c.H c.V 4 s.es=ckV c.H c.V s.es:=esT_ne (by decide)
 have hdT:declT c.H 4 s.on s.od=some T0:=if_neg (by decide)
 rw[hdT]
 simp only
 rw[hes9]
 cases hv:ckV c.H c.V s.es with
 |error a=>
  rw[hv]at hval
  simp only at hval ⊢
  intro lim
  refine⟨c.V,Z9,bad0,?_⟩
  rw[hcs]
  obtain⟨v,hsl,ev⟩:=hval 1
  have hvc:=isCell_sl hsl
  have hvp:=pure_sl hsl
  have eok2:=fun lim=>failed_ok lim (c.fail a) []
  rw[decide_eq_false fail_fe]at eok2
  generalize esV s.es=kv at *
  generalize ssV s.bd=bv at *
  generalize ssV s.el=lv at *
  generalize (c.fail a).obj=o at *
  refine call_run (sf:=s59) rfl rfl rfl ?_
  simp[-a_load,-a_store,s59,est,en,e1,e2,b1,b2,l1,l2,ev,hsl,eok2,paste,AV.view,AV.isPure,AV.allPure,W_drawB,boxOk]
 |ok ys=>
  rw[hv]at hval
  simp only at hval ⊢
  have hform:formT c.sg.has 4 ys=true:=ckV_form hv h
  obtain⟨fv,⟨z,rfl,hzr⟩,efit⟩:=fits_mk 1 c 4 (keptS 4 s.nm) (keptSn 4 s.on) (keptSd 4 s.od) ys s.a T0 hw.s hform
  simp only[fit_kept]at hzr efit
  have hrx:(Sm.mk 4 (keptS 4 s.nm) (keptSn 4 s.on) (keptSd 4 s.od) ys [] [] s.a 0).row=[.int .i64 4,.str [],.str [],.int .i64 0,esV ys,.nilSl,.nilSl,.int .i64 s.a,.int .i64 0]:=by simp[Sm.row,Sm.rows,keptS,keptSn,keptSd]
  rw[hrx]at efit
  have m1:isSl (mkL 11 (E.rows ys))=true:=isSl_mk
  have m2:(mkL 11 (E.rows ys)).view=esV ys:=rfl
  generalize mkL 11 (E.rows ys)=mv at *
  have m3:=isCell_sl m1
  have m4:=pure_sl m1
  have y1:isSl (esV ys)=true:=isSl_esV
  have y2:(esV ys).view=esV ys:=view_esV
  generalize hyv:esV ys=yv at *
  generalize esV s.es=kv at *
  cases hT:fitT c.H c.sg.res c.V 4 s.nm ys T0 with
  |none=>
   simp only
   intro lim
   refine⟨c.V,Z9,bad0,?_⟩
   rw[hcs]
   rw[hT]at efit
   simp only[Option.isSome_none,fitC]at efit
   generalize ssV s.bd=bv at *
   generalize ssV s.el=lv at *
   generalize (c.fail s.a).obj=o at *
   refine call_run (sf:=s59) rfl rfl rfl ?_
   simp[-a_load,-a_store,s59,est,en,e1,e2,b1,b2,l1,l2,hval,m1,m2,eok,efit,efl,paste,AV.view,AV.isPure,AV.allPure,W_drawB,boxOk]
  |some x=>
   obtain⟨r,W⟩:=x
   have hzr:=hzr r W hT
   subst hzr
   rw[hT]at efit
   simp only[Option.isSome_some,fitC]at efit
   have hcW:({ c with V:=W }:CK)=c.setV W:=rfl
   rw[hcW]at efit
   simp only[show ¬((4:Int)=5) from by decide,show ¬((4:Int)=6) from by decide,if_false]
   intro lim
   have hrr:(Sm.mk 4 (keptS 4 s.nm) (keptSn 4 s.on) (keptSd 4 s.od) ys [] [] s.a z).row=[.int .i64 4,.str [],.str [],.int .i64 0,yv,.nilSl,.nilSl,.int .i64 s.a,.int .i64 z]:=by simp[Sm.row,Sm.rows,keptS,keptSn,keptSd,hyv]
   show _=some (AV.agg (Sm.mk 4 (keptS 4 s.nm) (keptSn 4 s.on) (keptSd 4 s.od) ys [] [] s.a z).row,_)
   rw[hrr]
   generalize ssV s.bd=bv at *
   generalize ssV s.el=lv at *
   generalize (c.setV W).obj=o at *
   refine call_run (sf:=s59) rfl rfl rfl ?_
   simp[-a_load,-a_store,s59,est,en,e1,e2,b1,b2,l1,l2,hval,m1,m2,y1,eok,efit,paste,AV.view,AV.isPure,AV.allPure,W_drawB,boxOk]
end K9
namespace K9
open Ax Go Code13 V7 Par Chk
theorem stmt_5 (c:CK)(s:Sm)(hf:c.fe=0)(hw:Way c)(hsz:c.V.length+Sm.sz s<1000000000)(hk:s.k=5)(h:formT c.sg.has s.k s.es=true)(hbd:∀d:CK,d.H=c.H->d.sg=c.sg->d.fe=0->Way d->d.V.length+Sm.szs s.bd<1000000000->OkB d s.bd)(hbe:∀d:CK,d.H=c.H->d.sg=c.sg->d.fe=0->Way d->d.V.length+Sm.szs s.el<1000000000->OkB d s.el):OkS c s:=by
 unfold OkS
 have hz:=Sm.sz_eq s
 have hel:=E.szs_len s.es
 have est:=fun lim=>isStmt_ok lim c s (by omega)
 rw[h]at est
 have en:=fun wl lim st=>none_ok wl lim st
 have efl:=fun lim=>fail_ok lim c s.a []
 have eok:=fun lim=>failed_ok lim c []
 rw[decide_eq_true hf]at eok
 have hcs:c.setV c.V=c:=rfl
 have hrow:=Sm.row_eq s
 rw[hk]at hrow
 rw[ckS_eq,h]
 rw[hk]at h ⊢
 simp only[if_true]
 rw[hrow]at est ⊢
 have e1:isSl (esV s.es)=true:=isSl_esV
 have e2:(esV s.es).view=esV s.es:=view_esV
 have b1:isSl (ssV s.bd)=true:=isSl_ssV
 have b2:(ssV s.bd).view=ssV s.bd:=view_ssV
 have l1:isSl (ssV s.el)=true:=isSl_ssV
 have l2:(ssV s.el).view=ssV s.el:=view_ssV
 have hval:=values_ok c s.es hf (by omega) (fun e he=>expr_ok c hf hw e (by have:=E.szs_mem he;omega))
 have hes9:esT c.H c.V 5 s.es=ckV c.H c.V s.es:=esT_ne (by decide)
 have hdT:declT c.H 5 s.on s.od=some T0:=if_neg (by decide)
 rw[hdT]
 simp only
 rw[hes9]
 cases hv:ckV c.H c.V s.es with
 |error a=>
  rw[hv]at hval
  simp only at hval ⊢
  intro lim
  refine⟨c.V,Z9,bad0,?_⟩
  rw[hcs]
  obtain⟨v,hsl,ev⟩:=hval 1
  have hvc:=isCell_sl hsl
  have hvp:=pure_sl hsl
  have eok2:=fun lim=>failed_ok lim (c.fail a) []
  rw[decide_eq_false fail_fe]at eok2
  generalize esV s.es=kv at *
  generalize ssV s.bd=bv at *
  generalize ssV s.el=lv at *
  generalize (c.fail a).obj=o at *
  refine call_run (sf:=s59) rfl rfl rfl ?_
  simp[-a_load,-a_store,s59,est,en,e1,e2,b1,b2,l1,l2,ev,hsl,eok2,paste,AV.view,AV.isPure,AV.allPure,W_drawB,boxOk]
 |ok ys=>
  rw[hv]at hval
  simp only at hval ⊢
  have hform:formT c.sg.has 5 ys=true:=ckV_form hv h
  obtain⟨fv,⟨z,rfl,hzr⟩,efit⟩:=fits_mk 1 c 5 (keptS 5 s.nm) (keptSn 5 s.on) (keptSd 5 s.od) ys s.a T0 hw.s hform
  simp only[fit_kept]at hzr efit
  have hrx:(Sm.mk 5 (keptS 5 s.nm) (keptSn 5 s.on) (keptSd 5 s.od) ys [] [] s.a 0).row=[.int .i64 5,.str [],.str [],.int .i64 0,esV ys,.nilSl,.nilSl,.int .i64 s.a,.int .i64 0]:=by simp[Sm.row,Sm.rows,keptS,keptSn,keptSd]
  rw[hrx]at efit
  have m1:isSl (mkL 11 (E.rows ys))=true:=isSl_mk
  have m2:(mkL 11 (E.rows ys)).view=esV ys:=rfl
  generalize mkL 11 (E.rows ys)=mv at *
  have m3:=isCell_sl m1
  have m4:=pure_sl m1
  have y1:isSl (esV ys)=true:=isSl_esV
  have y2:(esV ys).view=esV ys:=view_esV
  generalize hyv:esV ys=yv at *
  generalize esV s.es=kv at *
  cases hT:fitT c.H c.sg.res c.V 5 s.nm ys T0 with
  |none=>
   simp only
   intro lim
   refine⟨c.V,Z9,bad0,?_⟩
   rw[hcs]
   rw[hT]at efit
   simp only[Option.isSome_none,fitC]at efit
   generalize ssV s.bd=bv at *
   generalize ssV s.el=lv at *
   generalize (c.fail s.a).obj=o at *
   refine call_run (sf:=s59) rfl rfl rfl ?_
   simp[-a_load,-a_store,s59,est,en,e1,e2,b1,b2,l1,l2,hval,m1,m2,eok,efit,efl,paste,AV.view,AV.isPure,AV.allPure,W_drawB,boxOk]
  |some x=>
   obtain⟨r,W⟩:=x
   have hzr:=hzr r W hT
   subst hzr
   rw[hT]at efit
   simp only[Option.isSome_some,fitC]at efit
   have hcW:({ c with V:=W }:CK)=c.setV W:=rfl
   rw[hcW]at efit
   have hfw:=fit_W hT
   have hWV:W=c.V:=by
    rcases hfw with e|⟨e,_⟩
    ·exact e
    ·rcases e with e|e<;>cases e
   have hwW:Way (c.setV W):=by rw[hWV];exact hw
   have hbl:=Sm.szs_len s.bd
   have hll:=Sm.szs_len s.el
   have hB:=hbd (c.setV W) rfl rfl hf hwW (by show W.length+_<_;rw[hWV];omega)
   unfold OkB at hB
   have hcd:ckB (c.setV W).H (c.setV W).sg.has (c.setV W).sg.res (c.setV W).V s.bd=ckB c.H c.sg.has c.sg.res W s.bd:=rfl
   rw[hcd]at hB
   dsimp only
   cases hb:ckB c.H c.sg.has c.sg.res W s.bd with
   |error a=>
    rw[hb]at hB
    simp only at hB ⊢
    intro lim
    obtain⟨W',v,v1,ev⟩:=hB 1
    have hss:(c.setV W).setV W'=c.setV W':=rfl
    rw[hss]at ev
    have v3:=isCell_sl v1
    have v4:=pure_sl v1
    have v5:isSl v.view=true:=by rw[isSl_view];exact v1
    have eB:=fun lim=>blockF_ok lim ((c.setV W').fail a) s.el fail_fe (by omega)
    refine⟨W',[.int .i64 5,.str [],.str [],.int .i64 0,yv,v.view,.nilSl,.int .i64 s.a,.int .i64 z],⟨_,_,_,_,_,_,_,_,_,rfl,y1,v5,rfl⟩,?_⟩
    generalize ssV s.bd=bv at *
    generalize ssV s.el=lv at *
    generalize (c.setV W).obj=o at *
    generalize ((c.setV W').fail a).obj=o2 at *
    refine call_run (sf:=s59) rfl rfl rfl ?_
    simp[-a_load,-a_store,s59,est,en,e1,e2,b1,b2,l1,l2,hval,m1,m2,y1,eok,efit,ev,v1,v5,eB,paste,AV.view,AV.isPure,AV.allPure,W_drawB,boxOk]
   |ok x=>
    obtain⟨bs,W1⟩:=x
    rw[hb]at hB
    simp only at hB ⊢
    have hss:(c.setV W).setV W1=c.setV W1:=rfl
    rw[hss]at hB
    have q1:isSl (mkL 9 (Sm.rows bs))=true:=isSl_mk
    have q2:(mkL 9 (Sm.rows bs)).view=ssV bs:=rfl
    have q3:=isCell_sl q1
    have q4:=pure_sl q1
    have q5:isSl (ssV bs)=true:=isSl_ssV
    obtain⟨w1,w2⟩:=ckB_wt (by rw[hWV];exact hw.V) hb
    have hwW1:Way (c.setV W1):=way_set hw w1 (by rw[hWV]at w2;omega)
    have hL:=hbe (c.setV W1) rfl rfl hf hwW1 (by show W1.length+_<_;rw[hWV]at w2;omega)
    unfold OkB at hL
    have hcd:ckB (c.setV W1).H (c.setV W1).sg.has (c.setV W1).sg.res (c.setV W1).V s.el=ckB c.H c.sg.has c.sg.res W1 s.el:=rfl
    rw[hcd]at hL
    generalize mkL 9 (Sm.rows bs)=mb at *
    cases hc:ckB c.H c.sg.has c.sg.res W1 s.el with
    |error a=>
     rw[hc]at hL
     simp only at hL ⊢
     intro lim
     obtain⟨W',v,v1,ev⟩:=hL 1
     have hss:(c.setV W1).setV W'=c.setV W':=rfl
     rw[hss]at ev
     have v3:=isCell_sl v1
     have v4:=pure_sl v1
     have v5:isSl v.view=true:=by rw[isSl_view];exact v1
     refine⟨W',[.int .i64 5,.str [],.str [],.int .i64 0,yv,ssV bs,v.view,.int .i64 s.a,.int .i64 z],⟨_,_,_,_,_,_,_,_,_,rfl,y1,q5,v5⟩,?_⟩
     generalize ssV bs=bsv at *
     generalize ssV s.bd=bv at *
     generalize ssV s.el=lv at *
     generalize (c.setV W).obj=o at *
     generalize (c.setV W1).obj=o2 at *
     generalize ((c.setV W').fail a).obj=o3 at *
     refine call_run (sf:=s59) rfl rfl rfl ?_
     simp[-a_load,-a_store,s59,est,en,e1,e2,b1,b2,l1,l2,hval,m1,m2,y1,eok,efit,hB,ev,v1,v5,q1,q2,q5,paste,AV.view,AV.isPure,AV.allPure,W_drawB,boxOk]
    |ok x=>
     obtain⟨ls,W2⟩:=x
     rw[hc]at hL
     simp only at hL ⊢
     have hss:(c.setV W1).setV W2=c.setV W2:=rfl
     rw[hss]at hL
     have p1:isSl (mkL 9 (Sm.rows ls))=true:=isSl_mk
     have p2:(mkL 9 (Sm.rows ls)).view=ssV ls:=rfl
     have p3:=isCell_sl p1
     have p4:=pure_sl p1
     have p5:isSl (ssV ls)=true:=isSl_ssV
     intro lim
     have hrr:(Sm.mk 5 (keptS 5 s.nm) (keptSn 5 s.on) (keptSd 5 s.od) ys bs ls s.a z).row=[.int .i64 5,.str [],.str [],.int .i64 0,yv,ssV bs,ssV ls,.int .i64 s.a,.int .i64 z]:=by simp[Sm.row,keptS,keptSn,keptSd,hyv,ssV]
     show _=some (AV.agg (Sm.mk 5 (keptS 5 s.nm) (keptSn 5 s.on) (keptSd 5 s.od) ys bs ls s.a z).row,_)
     rw[hrr]
     generalize mkL 9 (Sm.rows ls)=ml at *
     generalize ssV bs=bsv at *
     generalize ssV ls=lsv at *
     generalize ssV s.bd=bv at *
     generalize ssV s.el=lv at *
     generalize (c.setV W).obj=o at *
     generalize (c.setV W1).obj=o2 at *
     generalize (c.setV W2).obj=o3 at *
     refine call_run (sf:=s59) rfl rfl rfl ?_
     simp[-a_load,-a_store,s59,est,en,e1,e2,b1,b2,l1,l2,hval,m1,m2,y1,eok,efit,hB,hL,q1,q2,q5,p1,p2,p5,paste,AV.view,AV.isPure,AV.allPure,W_drawB,boxOk]
theorem stmt_6 (c:CK)(s:Sm)(hf:c.fe=0)(hw:Way c)(hsz:c.V.length+Sm.sz s<1000000000)(hk:s.k=6)(h:formT c.sg.has s.k s.es=true)(hbd:∀d:CK,d.H=c.H->d.sg=c.sg->d.fe=0->Way d->d.V.length+Sm.szs s.bd<1000000000->OkB d s.bd):OkS c s:=by
 unfold OkS
 have hz:=Sm.sz_eq s
 have hel:=E.szs_len s.es
 have est:=fun lim=>isStmt_ok lim c s (by omega)
 rw[h]at est
 have en:=fun wl lim st=>none_ok wl lim st
 have efl:=fun lim=>fail_ok lim c s.a []
 have eok:=fun lim=>failed_ok lim c []
 rw[decide_eq_true hf]at eok
 have hcs:c.setV c.V=c:=rfl
 have hrow:=Sm.row_eq s
 rw[hk]at hrow
 rw[ckS_eq,h]
 rw[hk]at h ⊢
 simp only[if_true]
 rw[hrow]at est ⊢
 have e1:isSl (esV s.es)=true:=isSl_esV
 have e2:(esV s.es).view=esV s.es:=view_esV
 have b1:isSl (ssV s.bd)=true:=isSl_ssV
 have b2:(ssV s.bd).view=ssV s.bd:=view_ssV
 have l1:isSl (ssV s.el)=true:=isSl_ssV
 have l2:(ssV s.el).view=ssV s.el:=view_ssV
 have hval:=values_ok c s.es hf (by omega) (fun e he=>expr_ok c hf hw e (by have:=E.szs_mem he;omega))
 have hes9:esT c.H c.V 6 s.es=ckV c.H c.V s.es:=esT_ne (by decide)
 have hdT:declT c.H 6 s.on s.od=some T0:=if_neg (by decide)
 rw[hdT]
 simp only
 rw[hes9]
 cases hv:ckV c.H c.V s.es with
 |error a=>
  rw[hv]at hval
  simp only at hval ⊢
  intro lim
  refine⟨c.V,Z9,bad0,?_⟩
  rw[hcs]
  obtain⟨v,hsl,ev⟩:=hval 1
  have hvc:=isCell_sl hsl
  have hvp:=pure_sl hsl
  have eok2:=fun lim=>failed_ok lim (c.fail a) []
  rw[decide_eq_false fail_fe]at eok2
  generalize esV s.es=kv at *
  generalize ssV s.bd=bv at *
  generalize ssV s.el=lv at *
  generalize (c.fail a).obj=o at *
  refine call_run (sf:=s59) rfl rfl rfl ?_
  simp[-a_load,-a_store,s59,est,en,e1,e2,b1,b2,l1,l2,ev,hsl,eok2,paste,AV.view,AV.isPure,AV.allPure,W_drawB,boxOk]
 |ok ys=>
  rw[hv]at hval
  simp only at hval ⊢
  have hform:formT c.sg.has 6 ys=true:=ckV_form hv h
  obtain⟨fv,⟨z,rfl,hzr⟩,efit⟩:=fits_mk 1 c 6 (keptS 6 s.nm) (keptSn 6 s.on) (keptSd 6 s.od) ys s.a T0 hw.s hform
  simp only[fit_kept]at hzr efit
  have hrx:(Sm.mk 6 (keptS 6 s.nm) (keptSn 6 s.on) (keptSd 6 s.od) ys [] [] s.a 0).row=[.int .i64 6,.str [],.str [],.int .i64 0,esV ys,.nilSl,.nilSl,.int .i64 s.a,.int .i64 0]:=by simp[Sm.row,Sm.rows,keptS,keptSn,keptSd]
  rw[hrx]at efit
  have m1:isSl (mkL 11 (E.rows ys))=true:=isSl_mk
  have m2:(mkL 11 (E.rows ys)).view=esV ys:=rfl
  generalize mkL 11 (E.rows ys)=mv at *
  have m3:=isCell_sl m1
  have m4:=pure_sl m1
  have y1:isSl (esV ys)=true:=isSl_esV
  have y2:(esV ys).view=esV ys:=view_esV
  generalize hyv:esV ys=yv at *
  generalize esV s.es=kv at *
  cases hT:fitT c.H c.sg.res c.V 6 s.nm ys T0 with
  |none=>
   simp only
   intro lim
   refine⟨c.V,Z9,bad0,?_⟩
   rw[hcs]
   rw[hT]at efit
   simp only[Option.isSome_none,fitC]at efit
   generalize ssV s.bd=bv at *
   generalize ssV s.el=lv at *
   generalize (c.fail s.a).obj=o at *
   refine call_run (sf:=s59) rfl rfl rfl ?_
   simp[-a_load,-a_store,s59,est,en,e1,e2,b1,b2,l1,l2,hval,m1,m2,eok,efit,efl,paste,AV.view,AV.isPure,AV.allPure,W_drawB,boxOk]
  |some x=>
   obtain⟨r,W⟩:=x
   have hzr:=hzr r W hT
   subst hzr
   rw[hT]at efit
   simp only[Option.isSome_some,fitC]at efit
   have hcW:({ c with V:=W }:CK)=c.setV W:=rfl
   rw[hcW]at efit
   have hfw:=fit_W hT
   have hWV:W=c.V:=by
    rcases hfw with e|⟨e,_⟩
    ·exact e
    ·rcases e with e|e<;>cases e
   have hwW:Way (c.setV W):=by rw[hWV];exact hw
   have hbl:=Sm.szs_len s.bd
   have hll:=Sm.szs_len s.el
   have hB:=hbd (c.setV W) rfl rfl hf hwW (by show W.length+_<_;rw[hWV];omega)
   unfold OkB at hB
   have hcd:ckB (c.setV W).H (c.setV W).sg.has (c.setV W).sg.res (c.setV W).V s.bd=ckB c.H c.sg.has c.sg.res W s.bd:=rfl
   rw[hcd]at hB
   simp only[show ¬((6:Int)=5) from by decide,if_false]
   cases hb:ckB c.H c.sg.has c.sg.res W s.bd with
   |error a=>
    rw[hb]at hB
    simp only at hB ⊢
    intro lim
    obtain⟨W',v,v1,ev⟩:=hB 1
    have hss:(c.setV W).setV W'=c.setV W':=rfl
    rw[hss]at ev
    have v3:=isCell_sl v1
    have v4:=pure_sl v1
    have v5:isSl v.view=true:=by rw[isSl_view];exact v1
    have eB:=fun lim=>blockF_ok lim ((c.setV W').fail a) s.el fail_fe (by omega)
    refine⟨W',[.int .i64 6,.str [],.str [],.int .i64 0,yv,v.view,.nilSl,.int .i64 s.a,.int .i64 z],⟨_,_,_,_,_,_,_,_,_,rfl,y1,v5,rfl⟩,?_⟩
    generalize ssV s.bd=bv at *
    generalize ssV s.el=lv at *
    generalize (c.setV W).obj=o at *
    generalize ((c.setV W').fail a).obj=o2 at *
    refine call_run (sf:=s59) rfl rfl rfl ?_
    simp[-a_load,-a_store,s59,est,en,e1,e2,b1,b2,l1,l2,hval,m1,m2,y1,eok,efit,ev,v1,v5,paste,AV.view,AV.isPure,AV.allPure,W_drawB,boxOk]
   |ok x=>
    obtain⟨bs,W1⟩:=x
    rw[hb]at hB
    simp only at hB ⊢
    have hss:(c.setV W).setV W1=c.setV W1:=rfl
    rw[hss]at hB
    have q1:isSl (mkL 9 (Sm.rows bs))=true:=isSl_mk
    have q2:(mkL 9 (Sm.rows bs)).view=ssV bs:=rfl
    have q3:=isCell_sl q1
    have q4:=pure_sl q1
    have q5:isSl (ssV bs)=true:=isSl_ssV
    intro lim
    have hrr:(Sm.mk 6 (keptS 6 s.nm) (keptSn 6 s.on) (keptSd 6 s.od) ys bs [] s.a z).row=[.int .i64 6,.str [],.str [],.int .i64 0,yv,ssV bs,.nilSl,.int .i64 s.a,.int .i64 z]:=by simp[Sm.row,Sm.rows,keptS,keptSn,keptSd,hyv,ssV]
    show _=some (AV.agg (Sm.mk 6 (keptS 6 s.nm) (keptSn 6 s.on) (keptSd 6 s.od) ys bs [] s.a z).row,_)
    rw[hrr]
    generalize mkL 9 (Sm.rows bs)=mb at *
    generalize ssV bs=bsv at *
    generalize ssV s.bd=bv at *
    generalize ssV s.el=lv at *
    generalize (c.setV W).obj=o at *
    generalize (c.setV W1).obj=o2 at *
    refine call_run (sf:=s59) rfl rfl rfl ?_
    simp[-a_load,-a_store,s59,est,en,e1,e2,b1,b2,l1,l2,hval,m1,m2,y1,eok,efit,hB,q1,q2,q5,paste,AV.view,AV.isPure,AV.allPure,W_drawB,boxOk]
theorem stmt_7 (c:CK)(s:Sm)(hf:c.fe=0)(hw:Way c)(hsz:c.V.length+Sm.sz s<1000000000)(hk:s.k=7)(h:formT c.sg.has s.k s.es=true):OkS c s:=by
 unfold OkS
 have hz:=Sm.sz_eq s
 have hel:=E.szs_len s.es
 have est:=fun lim=>isStmt_ok lim c s (by omega)
 rw[h]at est
 have en:=fun wl lim st=>none_ok wl lim st
 have efl:=fun lim=>fail_ok lim c s.a []
 have eok:=fun lim=>failed_ok lim c []
 rw[decide_eq_true hf]at eok
 have hcs:c.setV c.V=c:=rfl
 have hrow:=Sm.row_eq s
 rw[hk]at hrow
 rw[ckS_eq,h]
 rw[hk]at h ⊢
 simp only[if_true]
 rw[hrow]at est ⊢
 have e1:isSl (esV s.es)=true:=isSl_esV
 have e2:(esV s.es).view=esV s.es:=view_esV
 have b1:isSl (ssV s.bd)=true:=isSl_ssV
 have b2:(ssV s.bd).view=ssV s.bd:=view_ssV
 have l1:isSl (ssV s.el)=true:=isSl_ssV
 have l2:(ssV s.el).view=ssV s.el:=view_ssV
 have hval:=values_ok c s.es hf (by omega) (fun e he=>expr_ok c hf hw e (by have:=E.szs_mem he;omega))
 have hes9:esT c.H c.V 7 s.es=ckV c.H c.V s.es:=esT_ne (by decide)
 have hdT:declT c.H 7 s.on s.od=some T0:=if_neg (by decide)
 rw[hdT]
 simp only
 rw[hes9]
 cases hv:ckV c.H c.V s.es with
 |error a=>
  rw[hv]at hval
  simp only at hval ⊢
  intro lim
  refine⟨c.V,Z9,bad0,?_⟩
  rw[hcs]
  obtain⟨v,hsl,ev⟩:=hval 1
  have hvc:=isCell_sl hsl
  have hvp:=pure_sl hsl
  have eok2:=fun lim=>failed_ok lim (c.fail a) []
  rw[decide_eq_false fail_fe]at eok2
  generalize esV s.es=kv at *
  generalize ssV s.bd=bv at *
  generalize ssV s.el=lv at *
  generalize (c.fail a).obj=o at *
  refine call_run (sf:=s59) rfl rfl rfl ?_
  simp[-a_load,-a_store,s59,est,en,e1,e2,b1,b2,l1,l2,ev,hsl,eok2,paste,AV.view,AV.isPure,AV.allPure,W_drawB,boxOk]
 |ok ys=>
  rw[hv]at hval
  simp only at hval ⊢
  have hform:formT c.sg.has 7 ys=true:=ckV_form hv h
  obtain⟨fv,⟨z,rfl,hzr⟩,efit⟩:=fits_mk 1 c 7 (keptS 7 s.nm) (keptSn 7 s.on) (keptSd 7 s.od) ys s.a T0 hw.s hform
  simp only[fit_kept]at hzr efit
  have hrx:(Sm.mk 7 (keptS 7 s.nm) (keptSn 7 s.on) (keptSd 7 s.od) ys [] [] s.a 0).row=[.int .i64 7,.str [],.str [],.int .i64 0,esV ys,.nilSl,.nilSl,.int .i64 s.a,.int .i64 0]:=by simp[Sm.row,Sm.rows,keptS,keptSn,keptSd]
  rw[hrx]at efit
  have m1:isSl (mkL 11 (E.rows ys))=true:=isSl_mk
  have m2:(mkL 11 (E.rows ys)).view=esV ys:=rfl
  generalize mkL 11 (E.rows ys)=mv at *
  have m3:=isCell_sl m1
  have m4:=pure_sl m1
  have y1:isSl (esV ys)=true:=isSl_esV
  have y2:(esV ys).view=esV ys:=view_esV
  generalize hyv:esV ys=yv at *
  generalize esV s.es=kv at *
  cases hT:fitT c.H c.sg.res c.V 7 s.nm ys T0 with
  |none=>
   simp only
   intro lim
   refine⟨c.V,Z9,bad0,?_⟩
   rw[hcs]
   rw[hT]at efit
   simp only[Option.isSome_none,fitC]at efit
   generalize ssV s.bd=bv at *
   generalize ssV s.el=lv at *
   generalize (c.fail s.a).obj=o at *
   refine call_run (sf:=s59) rfl rfl rfl ?_
   simp[-a_load,-a_store,s59,est,en,e1,e2,b1,b2,l1,l2,hval,m1,m2,eok,efit,efl,paste,AV.view,AV.isPure,AV.allPure,W_drawB,boxOk]
  |some x=>
   obtain⟨r,W⟩:=x
   have hzr:=hzr r W hT
   subst hzr
   rw[hT]at efit
   simp only[Option.isSome_some,fitC]at efit
   have hcW:({ c with V:=W }:CK)=c.setV W:=rfl
   rw[hcW]at efit
   simp only[show ¬((7:Int)=5) from by decide,show ¬((7:Int)=6) from by decide,if_false]
   intro lim
   have hrr:(Sm.mk 7 (keptS 7 s.nm) (keptSn 7 s.on) (keptSd 7 s.od) ys [] [] s.a z).row=[.int .i64 7,.str [],.str [],.int .i64 0,yv,.nilSl,.nilSl,.int .i64 s.a,.int .i64 z]:=by simp[Sm.row,Sm.rows,keptS,keptSn,keptSd,hyv]
   show _=some (AV.agg (Sm.mk 7 (keptS 7 s.nm) (keptSn 7 s.on) (keptSd 7 s.od) ys [] [] s.a z).row,_)
   rw[hrr]
   generalize ssV s.bd=bv at *
   generalize ssV s.el=lv at *
   generalize (c.setV W).obj=o at *
   refine call_run (sf:=s59) rfl rfl rfl ?_
   simp[-a_load,-a_store,s59,est,en,e1,e2,b1,b2,l1,l2,hval,m1,m2,y1,eok,efit,paste,AV.view,AV.isPure,AV.allPure,W_drawB,boxOk]
theorem stmt_8 (c:CK)(s:Sm)(hf:c.fe=0)(hw:Way c)(hsz:c.V.length+Sm.sz s<1000000000)(hk:s.k=8)(h:formT c.sg.has s.k s.es=true):OkS c s:=by
 unfold OkS
 have hz:=Sm.sz_eq s
 have hel:=E.szs_len s.es
 have est:=fun lim=>isStmt_ok lim c s (by omega)
 rw[h]at est
 have en:=fun wl lim st=>none_ok wl lim st
 have efl:=fun lim=>fail_ok lim c s.a []
 have eok:=fun lim=>failed_ok lim c []
 rw[decide_eq_true hf]at eok
 have hcs:c.setV c.V=c:=rfl
 have hrow:=Sm.row_eq s
 rw[hk]at hrow
 rw[ckS_eq,h]
 rw[hk]at h ⊢
 simp only[if_true]
 rw[hrow]at est ⊢
 have e1:isSl (esV s.es)=true:=isSl_esV
 have e2:(esV s.es).view=esV s.es:=view_esV
 have b1:isSl (ssV s.bd)=true:=isSl_ssV
 have b2:(ssV s.bd).view=ssV s.bd:=view_ssV
 have l1:isSl (ssV s.el)=true:=isSl_ssV
 have l2:(ssV s.el).view=ssV s.el:=view_ssV
 have hval:=values_ok c s.es hf (by omega) (fun e he=>expr_ok c hf hw e (by have:=E.szs_mem he;omega))
 have hes9:esT c.H c.V 8 s.es=ckV c.H c.V s.es:=esT_ne (by decide)
 have hdT:declT c.H 8 s.on s.od=some T0:=if_neg (by decide)
 rw[hdT]
 simp only
 rw[hes9]
 cases hv:ckV c.H c.V s.es with
 |error a=>
  rw[hv]at hval
  simp only at hval ⊢
  intro lim
  refine⟨c.V,Z9,bad0,?_⟩
  rw[hcs]
  obtain⟨v,hsl,ev⟩:=hval 1
  have hvc:=isCell_sl hsl
  have hvp:=pure_sl hsl
  have eok2:=fun lim=>failed_ok lim (c.fail a) []
  rw[decide_eq_false fail_fe]at eok2
  generalize esV s.es=kv at *
  generalize ssV s.bd=bv at *
  generalize ssV s.el=lv at *
  generalize (c.fail a).obj=o at *
  refine call_run (sf:=s59) rfl rfl rfl ?_
  simp[-a_load,-a_store,s59,est,en,e1,e2,b1,b2,l1,l2,ev,hsl,eok2,paste,AV.view,AV.isPure,AV.allPure,W_drawB,boxOk]
 |ok ys=>
  rw[hv]at hval
  simp only at hval ⊢
  have hform:formT c.sg.has 8 ys=true:=ckV_form hv h
  obtain⟨fv,⟨z,rfl,hzr⟩,efit⟩:=fits_mk 1 c 8 (keptS 8 s.nm) (keptSn 8 s.on) (keptSd 8 s.od) ys s.a T0 hw.s hform
  simp only[fit_kept]at hzr efit
  have hrx:(Sm.mk 8 (keptS 8 s.nm) (keptSn 8 s.on) (keptSd 8 s.od) ys [] [] s.a 0).row=[.int .i64 8,.str [],.str [],.int .i64 0,esV ys,.nilSl,.nilSl,.int .i64 s.a,.int .i64 0]:=by simp[Sm.row,Sm.rows,keptS,keptSn,keptSd]
  rw[hrx]at efit
  have m1:isSl (mkL 11 (E.rows ys))=true:=isSl_mk
  have m2:(mkL 11 (E.rows ys)).view=esV ys:=rfl
  generalize mkL 11 (E.rows ys)=mv at *
  have m3:=isCell_sl m1
  have m4:=pure_sl m1
  have y1:isSl (esV ys)=true:=isSl_esV
  have y2:(esV ys).view=esV ys:=view_esV
  generalize hyv:esV ys=yv at *
  generalize esV s.es=kv at *
  cases hT:fitT c.H c.sg.res c.V 8 s.nm ys T0 with
  |none=>
   simp only
   intro lim
   refine⟨c.V,Z9,bad0,?_⟩
   rw[hcs]
   rw[hT]at efit
   simp only[Option.isSome_none,fitC]at efit
   generalize ssV s.bd=bv at *
   generalize ssV s.el=lv at *
   generalize (c.fail s.a).obj=o at *
   refine call_run (sf:=s59) rfl rfl rfl ?_
   simp[-a_load,-a_store,s59,est,en,e1,e2,b1,b2,l1,l2,hval,m1,m2,eok,efit,efl,paste,AV.view,AV.isPure,AV.allPure,W_drawB,boxOk]
  |some x=>
   obtain⟨r,W⟩:=x
   have hzr:=hzr r W hT
   subst hzr
   rw[hT]at efit
   simp only[Option.isSome_some,fitC]at efit
   have hcW:({ c with V:=W }:CK)=c.setV W:=rfl
   rw[hcW]at efit
   simp only[show ¬((8:Int)=5) from by decide,show ¬((8:Int)=6) from by decide,if_false]
   intro lim
   have hrr:(Sm.mk 8 (keptS 8 s.nm) (keptSn 8 s.on) (keptSd 8 s.od) ys [] [] s.a z).row=[.int .i64 8,.str [],.str [],.int .i64 0,yv,.nilSl,.nilSl,.int .i64 s.a,.int .i64 z]:=by simp[Sm.row,Sm.rows,keptS,keptSn,keptSd,hyv]
   show _=some (AV.agg (Sm.mk 8 (keptS 8 s.nm) (keptSn 8 s.on) (keptSd 8 s.od) ys [] [] s.a z).row,_)
   rw[hrr]
   generalize ssV s.bd=bv at *
   generalize ssV s.el=lv at *
   generalize (c.setV W).obj=o at *
   refine call_run (sf:=s59) rfl rfl rfl ?_
   simp[-a_load,-a_store,s59,est,en,e1,e2,b1,b2,l1,l2,hval,m1,m2,y1,eok,efit,paste,AV.view,AV.isPure,AV.allPure,W_drawB,boxOk]
theorem stmt_9 (c:CK)(s:Sm)(hf:c.fe=0)(hw:Way c)(hsz:c.V.length+Sm.sz s<1000000000)(hk:s.k=9)(h:formT c.sg.has s.k s.es=true):OkS c s:=by
 unfold OkS
 have hz:=Sm.sz_eq s
 have hel:=E.szs_len s.es
 have est:=fun lim=>isStmt_ok lim c s (by omega)
 rw[h]at est
 have en:=fun wl lim st=>none_ok wl lim st
 have efl:=fun lim=>fail_ok lim c s.a []
 have eok:=fun lim=>failed_ok lim c []
 rw[decide_eq_true hf]at eok
 have hcs:c.setV c.V=c:=rfl
 have hrow:=Sm.row_eq s
 rw[hk]at hrow
 rw[ckS_eq,h]
 rw[hk]at h ⊢
 simp only[if_true]
 rw[hrow]at est ⊢
 have e1:isSl (esV s.es)=true:=isSl_esV
 have e2:(esV s.es).view=esV s.es:=view_esV
 have b1:isSl (ssV s.bd)=true:=isSl_ssV
 have b2:(ssV s.bd).view=ssV s.bd:=view_ssV
 have l1:isSl (ssV s.el)=true:=isSl_ssV
 have l2:(ssV s.el).view=ssV s.el:=view_ssV
 obtain⟨e,hes,hek⟩:=form_9 h
 have hze:isSz 11 (esV s.es)=true:=isSz_E
 have hrE:rowsL (esV s.es)=E.rows s.es:=rowsL_lstV
 have hX:=expr_ok c hf hw e (by have:E.sz e<=E.szs s.es:=E.szs_mem (by rw[hes];exact List.mem_cons_self);omega)
 unfold OkX at hX
 have hes9:esT c.H c.V 9 s.es=match ckE c.H c.V e with|.error x=>.error x|.ok y=>.ok [y]:=by rw[hes];exact esT_9
 rw[show E.rows s.es=E.rows [e] from by rw[hes]]at hrE
 simp only[E.rows,E.row_eq]at hrE
 have hdT:declT c.H 9 s.on s.od=some T0:=if_neg (by decide)
 rw[hdT]
 simp only
 rw[hes9]
 cases hv:ckE c.H c.V e with
 |error a=>
  rw[hv]at hX
  simp only at hX ⊢
  intro lim
  refine⟨c.V,Z9,bad0,?_⟩
  rw[hcs]
  obtain⟨y,ev⟩:=hX 1
  have eok2:=fun lim=>failed_ok lim (c.fail a) []
  rw[decide_eq_false fail_fe]at eok2
  rw[E.row_eq e,E.row_eq y]at ev
  generalize esV s.es=kv at *
  generalize ssV s.bd=bv at *
  generalize ssV s.el=lv at *
  generalize (c.fail a).obj=o at *
  refine call_run (sf:=s59) rfl rfl rfl ?_
  simp[-a_load,-a_store,s59,est,en,e1,e2,b1,b2,l1,l2,hze,hrE,a_loadE,ev,eok2,paste,AV.view,AV.isPure,AV.allPure,W_drawB,boxOk]
 |ok y=>
  rw[hv]at hX
  simp only at hX ⊢
  have hform:formT c.sg.has 9 [y]=true:=by simp[formT,ckE_k hv,hek]
  obtain⟨fv,⟨z,rfl,hzr⟩,efit⟩:=fits_mk 1 c 9 (keptS 9 s.nm) (keptSn 9 s.on) (keptSd 9 s.od) [y] s.a T0 hw.s hform
  simp only[fit_kept]at hzr efit
  have hrx:(Sm.mk 9 (keptS 9 s.nm) (keptSn 9 s.on) (keptSd 9 s.od) [y] [] [] s.a 0).row=[.int .i64 9,.str [],.str [],.int .i64 0,esV [y],.nilSl,.nilSl,.int .i64 s.a,.int .i64 0]:=by simp[Sm.row,Sm.rows,keptS,keptSn,keptSd]
  rw[hrx]at efit
  have hyv:esV [y]=.lst 11 [y.row]:=by simp[esV,E.rows]
  rw[hyv]at efit
  rw[E.row_eq y]at efit hX hyv
  rw[E.row_eq e]at hX
  generalize esV s.es=kv at *
  cases hT:fitT c.H c.sg.res c.V 9 s.nm [y] T0 with
  |none=>
   simp only
   intro lim
   refine⟨c.V,Z9,bad0,?_⟩
   rw[hcs]
   rw[hT]at efit
   simp only[Option.isSome_none,fitC]at efit
   generalize ssV s.bd=bv at *
   generalize ssV s.el=lv at *
   generalize (c.fail s.a).obj=o at *
   refine call_run (sf:=s59) rfl rfl rfl ?_
   simp[-a_load,-a_store,s59,est,en,e1,e2,b1,b2,l1,l2,hze,hrE,a_loadE,hX,eok,efit,efl,paste,AV.view,AV.isPure,AV.allPure,W_drawB,boxOk]
  |some x=>
   obtain⟨r,W⟩:=x
   have hzr:=hzr r W hT
   subst hzr
   rw[hT]at efit
   simp only[Option.isSome_some,fitC]at efit
   have hcW:({ c with V:=W }:CK)=c.setV W:=rfl
   rw[hcW]at efit
   simp only[show ¬((9:Int)=5) from by decide,show ¬((9:Int)=6) from by decide,if_false]
   intro lim
   have hrr:(Sm.mk 9 (keptS 9 s.nm) (keptSn 9 s.on) (keptSd 9 s.od) [y] [] [] s.a z).row=[.int .i64 9,.str [],.str [],.int .i64 0,esV [y],.nilSl,.nilSl,.int .i64 s.a,.int .i64 z]:=by simp[Sm.row,Sm.rows,keptS,keptSn,keptSd]
   show _=some (AV.agg (Sm.mk 9 (keptS 9 s.nm) (keptSn 9 s.on) (keptSd 9 s.od) [y] [] [] s.a z).row,_)
   rw[hrr]
   generalize ssV s.bd=bv at *
   generalize ssV s.el=lv at *
   generalize (c.setV W).obj=o at *
   refine call_run (sf:=s59) rfl rfl rfl ?_
   simp[-a_load,-a_store,s59,est,en,e1,e2,b1,b2,l1,l2,hze,hrE,a_loadE,hX,hyv,eok,efit,paste,AV.view,AV.isPure,AV.allPure,W_drawB,boxOk]
end K9
namespace K9
open Ax Go Code13 V7 Par Chk
theorem form_in {has:Bool}{k:Int}{es:List E}(h:formT has k es=true):k=1\/k=2\/k=3\/k=4\/k=5\/k=6\/k=7\/k=8\/k=9:=by
 by_cases h1:k=1
 ·exact .inl h1
 by_cases h4:k=4
 ·omega
 by_cases h7:k=7
 ·omega
 by_cases h9:k=9
 ·omega
 unfold formT at h
 rw[if_neg h1,if_neg h4,if_neg h7,if_neg h9]at h
 split at h
 ·omega
 ·cases h
theorem ckB_drop {H:Hd}{has:Bool}{res:T3}{V:List Vd}{l:List Sm}{k:Nat}(h:k<l.length):ckB H has res V (l.drop k)=match ckS H has res V l[k] with
  |.error x=>.error x
  |.ok (y,W)=>match ckB H has res W (l.drop (k+1)) with
   |.error x=>.error x
   |.ok (ys,X)=>.ok (y::ys,X):=by
 rw[List.drop_eq_getElem_cons h]
 conv=>lhs;unfold ckB
 rfl
def preB (ys:List Sm)(r:Except Int (List Sm×List Vd)):Except Int (List Sm×List Vd):=match r with
 |.error x=>.error x
 |.ok (zs,X)=>.ok (ys++zs,X)
theorem preB_drop {H:Hd}{has:Bool}{res:T3}{V:List Vd}{l:List Sm}{ys:List Sm}{k:Nat}(h:k<l.length):preB ys (ckB H has res V (l.drop k))=match ckS H has res V l[k] with
  |.error x=>.error x
  |.ok (y,W)=>preB (ys++[y]) (ckB H has res W (l.drop (k+1))):=by
 rw[ckB_drop h]
 split
 ·rfl
 ·split
  ·rename_i h1;rw[h1];rfl
  ·rename_i h1;rw[h1];simp[preB]
theorem Sm_get {l:List Sm}{k:Nat}(h:k<l.length):(Sm.rows l)[k]?=some l[k].row:=by simp[Smrows_map,h]
theorem Sm_get' {l:List Sm}{k:Nat}(h:k<l.length)(h2:k<(Sm.rows l).length):(Sm.rows l)[k]=l[k].row:=by simp[Smrows_map]
theorem szs_drop:∀(l:List Sm)(k:Nat)(h:k<l.length),Sm.szs (l.drop k)=Sm.sz l[k]+Sm.szs (l.drop (k+1)):=by
 intro l k h
 rw[List.drop_eq_getElem_cons h];rfl
theorem block_ok (c:CK)(l:List Sm)(hf:c.fe=0)(hw:Way c)(hsz:c.V.length+Sm.szs l<1000000000)
  (hl:∀s∈l,∀d:CK,d.H=c.H->d.sg=c.sg->d.fe=0->Way d->d.V.length+Sm.sz s<1000000000->OkS d s):OkB c l:=by
 unfold OkB
 have hz:isSz 9 (ssV l)=true:=isSz_Sm
 have hsl:isSl (ssV l)=true:=isSl_ssV
 have hvw:(ssV l).view=ssV l:=view_ssV
 have hrE:rowsL (ssV l)=Sm.rows l:=rowsL_lstV
 have hlen:=Sm.szs_len l
 have hap:∀(ys:List Sm) (y:Sm),ys.length<1000000000->appV 9 136 (mkL 9 (Sm.rows ys)) [y.row]=some (mkL 9 (Sm.rows (ys++[y]))):=fun ys y h=>by
  rw[appV_mk (by simp[fits,Sm.row_eq]) (by simp[room];omega)]
  simp[Smrows_map]
 have hap2:∀(ys:List (List AV)) (y:List AV),y.length=9->ys.length<1000000000->appV 9 136 (mkL 9 ys) [y]=some (mkL 9 (ys++[y])):=fun ys y h1 h=>by
  rw[appV_mk (by simp[fits,h1]) (by simp[room];omega)]
 cases hR:ckB c.H c.sg.has c.sg.res c.V l with
 |ok x=>
  obtain⟨zs,X⟩:=x
  intro lim
  refine call_run (sf:=s43) rfl rfl rfl ?_
  generalize ssV l=lv at *
  simp[-a_load,-a_store,s43,hsl,hvw,hrE]
  refine W_loopI s43_l0.eq_1 (fun x:Nat×List Sm×List Vd×List AV=>⟨[(0,.val (.ptr 0 0 0 0)),(5,.val (mkL 9 (Sm.rows x.2.1))),(8,.val lv),(9,.val (.int .i64 l.length)),(10,.val (.int .i64 x.1))],[x.2.2.2],[(c.setV x.2.2.1).obj]⟩)
   (fun x=>x.1<=l.length/\x.2.1.length=x.1/\preB x.2.1 (ckB c.H c.sg.has c.sg.res x.2.2.1 (l.drop x.1))=.ok (zs,X)/\Way (c.setV x.2.2.1)/\x.2.2.1.length+Sm.szs (l.drop x.1)<1000000000) (fun x=>l.length-x.1) (0,[],c.V,[]) rfl ⟨by simp,rfl,by simp[preB,hR],hw,by simpa using hsz⟩ ?_
  rintro⟨k,ys,V,b⟩ ⟨hk,hy,hp,hW,hVs⟩ ih
  simp only at hk hy hp hW hVs ih
  by_cases hlt:k<l.length
  ·have hwr:IntKind.i64.wrap ((k:Int)+1)=((k+1:Nat):Int):=by rw[wrap64]<;>omega
   rw[szs_drop l k hlt]at hVs
   have hv:=hl l[k] (List.getElem_mem hlt) (c.setV V) rfl rfl hf hW (by show V.length+_<_;omega)
   unfold OkS at hv
   have hcd:ckS (c.setV V).H (c.setV V).sg.has (c.setV V).sg.res (c.setV V).V l[k]=ckS c.H c.sg.has c.sg.res V l[k]:=rfl
   rw[hcd]at hv
   rw[preB_drop hlt]at hp
   have gE:=Sm_get hlt
   have gE':=fun h2=>Sm_get' hlt h2
   have eok:=fun lim=>failed_ok lim (c.setV V) []
   rw[decide_eq_true (show (c.setV V).fe=0 from hf)]at eok
   cases hx:ckS c.H c.sg.has c.sg.res V l[k] with
   |error a=>rw[hx]at hp;cases hp
   |ok x=>
    obtain⟨y,W⟩:=x
    rw[hx]at hp hv
    simp only at hp hv
    obtain⟨w1,w2⟩:=ckS_wt l[k] V y W hW.V hx
    have ap:=hap ys y (by omega)
    have ih':=fun b=>ih (k+1,ys++[y],W,b) ⟨by simp only;omega,by simp[hy],hp,way_set (W:=W) hw w1 (by omega),by show W.length+Sm.szs (l.drop (k+1))<1000000000;omega⟩ (by simp only;omega)
    simp only at ih'
    have hss:(c.setV V).setV W=c.setV W:=rfl
    rw[hss]at hv
    generalize (c.setV V).obj=o1 at *
    generalize (c.setV W).obj=o2 at *
    generalize mkL 9 (Sm.rows (ys++[y]))=R at *
    rw[Sm.row_eq l[k]]at hv gE
    simp only[Sm.row_eq l[k]]at gE'
    rw[Sm.row_eq y]at hv ap
    generalize l[k]=x at *
    simp[-a_load,-a_store,a_loadE,hlt,hwr,hz,hrE,gE',eok,hv,ap,paste,AV.view]
    exact ih' _
  ·have hkl:k=l.length:=by omega
   have hh:ys=zs/\V=X:=by
    rw[hkl,List.drop_length]at hp
    simpa [ckB,preB] using hp
   obtain⟨h1,h2⟩:=hh
   subst h1 h2
   simp[-a_load,-a_store,hlt]
 |error a=>
  intro lim
  obtain⟨v,st',h1,W,h2,h3⟩:∃v st',(orcL S).call 0 lim 43 [.ptr 0 0 0 0,ssV l] [c.obj]=some (v,st')/\∃W,isSl v=true/\st'=[((c.setV W).fail a).obj]:=by
   refine call_ex (sf:=s43) rfl rfl rfl ?_
   generalize ssV l=lv at *
   simp[-a_load,-a_store,s43,hsl,hvw,hrE]
   refine W_loopI s43_l0.eq_1 (fun x:Nat×List (List AV)×List Vd×CK×List AV=>⟨[(0,.val (.ptr 0 0 0 0)),(5,.val (mkL 9 x.2.1)),(8,.val lv),(9,.val (.int .i64 l.length)),(10,.val (.int .i64 x.1))],[x.2.2.2.2],[x.2.2.2.1.obj]⟩)
    (fun x=>x.1<=l.length/\x.2.1.length=x.1/\(x.2.2.2.1=c.setV x.2.2.1/\ckB c.H c.sg.has c.sg.res x.2.2.1 (l.drop x.1)=.error a/\Way (c.setV x.2.2.1)/\x.2.2.1.length+Sm.szs (l.drop x.1)<1000000000\/x.2.2.2.1=(c.setV x.2.2.1).fail a))
    (fun x=>l.length-x.1) (0,[],c.V,c,[]) rfl ⟨by simp,rfl,.inl ⟨rfl,by simpa using hR,hw,by simpa using hsz⟩⟩ ?_
   rintro⟨k,ys,V,d,b⟩ ⟨hk,hy,hp⟩ ih
   simp only at hk hy hp ih
   by_cases hlt:k<l.length
   ·have hwr:IntKind.i64.wrap ((k:Int)+1)=((k+1:Nat):Int):=by rw[wrap64]<;>omega
    have gE:=Sm_get hlt
    have gE':=fun h2=>Sm_get' hlt h2
    rcases hp with⟨hd,hp,hW,hVs⟩|hd
    ·subst hd
     rw[szs_drop l k hlt]at hVs
     have hv:=hl l[k] (List.getElem_mem hlt) (c.setV V) rfl rfl hf hW (by show V.length+_<_;omega)
     unfold OkS at hv
     have hcd:ckS (c.setV V).H (c.setV V).sg.has (c.setV V).sg.res (c.setV V).V l[k]=ckS c.H c.sg.has c.sg.res V l[k]:=rfl
     rw[hcd]at hv
     rw[ckB_drop hlt]at hp
     have eok:=fun lim=>failed_ok lim (c.setV V) []
     rw[decide_eq_true (show (c.setV V).fe=0 from hf)]at eok
     cases hx:ckS c.H c.sg.has c.sg.res V l[k] with
     |error a'=>
      rw[hx]at hp hv
      simp only at hp hv
      cases hp
      obtain⟨W,row,⟨rk,rnm,ron,rod,res,rbd,rel,ra,rref,rfl,q1,q2,q3⟩,hv⟩:=hv 1
      have hss:(c.setV V).setV W=c.setV W:=rfl
      rw[hss]at hv
      have ap:=hap2 ys [.int .i64 rk,.str rnm,.str ron,.int .i64 rod,res.view,rbd.view,rel.view,.int .i64 ra,.int .i64 rref] rfl (by omega)
      have ih':=fun b=>ih (k+1,ys++[[.int .i64 rk,.str rnm,.str ron,.int .i64 rod,res.view,rbd.view,rel.view,.int .i64 ra,.int .i64 rref]],W,(c.setV W).fail a,b) ⟨by simp only;omega,by simp[hy],.inr rfl⟩ (by simp only;omega)
      simp only at ih'
      generalize (c.setV V).obj=o1 at *
      generalize ((c.setV W).fail a).obj=o2 at *
      generalize mkL 9 (ys++[[.int .i64 rk,.str rnm,.str ron,.int .i64 rod,res.view,rbd.view,rel.view,.int .i64 ra,.int .i64 rref]])=R at *
      rw[Sm.row_eq l[k]]at hv gE
      simp only[Sm.row_eq l[k]]at gE'
      generalize l[k]=x at *
      simp[-a_load,-a_store,a_loadE,hlt,hwr,hz,hrE,gE',eok,hv,ap,q1,q2,q3,paste,AV.view]
      exact ih' _
     |ok x=>
      obtain⟨y,W⟩:=x
      rw[hx]at hp hv
      simp only at hp hv
      obtain⟨w1,w2⟩:=ckS_wt l[k] V y W hW.V hx
      have hp':ckB c.H c.sg.has c.sg.res W (l.drop (k+1))=.error a:=by
       split at hp
       ·rename_i h;cases hp;exact h
       ·cases hp
      have ap:=hap2 ys y.row (by rw[Sm.row_eq];rfl) (by omega)
      have ih':=fun b=>ih (k+1,ys++[y.row],W,c.setV W,b) ⟨by simp only;omega,by simp[hy],.inl ⟨rfl,hp',way_set (W:=W) hw w1 (by omega),by show W.length+Sm.szs (l.drop (k+1))<1000000000;omega⟩⟩ (by simp only;omega)
      simp only at ih'
      have hss:(c.setV V).setV W=c.setV W:=rfl
      rw[hss]at hv
      generalize (c.setV V).obj=o1 at *
      generalize (c.setV W).obj=o2 at *
      generalize mkL 9 (ys++[y.row])=R at *
      rw[Sm.row_eq l[k]]at hv gE
      simp only[Sm.row_eq l[k]]at gE'
      rw[Sm.row_eq y]at hv ap
      generalize l[k]=x at *
      simp[-a_load,-a_store,a_loadE,hlt,hwr,hz,hrE,gE',eok,hv,ap,paste,AV.view]
      exact ih' _
    ·subst hd
     have eok2:=fun lim=>failed_ok lim ((c.setV V).fail a) []
     rw[decide_eq_false fail_fe]at eok2
     simp only[Sm.row_eq l[k]]at gE'
     rw[Sm.row_eq l[k]]at gE
     have hex:∃W,((c.setV V).fail a).obj=((c.setV W).fail a).obj:=⟨V,rfl⟩
     generalize ((c.setV V).fail a).obj=o2 at *
     generalize l[k]=x at *
     simp[-a_load,-a_store,a_loadE,hlt,hz,hrE,gE',eok2,hex,paste,AV.view]
   ·have hkl:k=l.length:=by omega
    rcases hp with⟨hd,hp,_⟩|hd
    ·rw[hkl,List.drop_length]at hp
     simp[ckB]at hp
    ·subst hd
     have hex:∃W,((c.setV V).fail a).obj=((c.setV W).fail a).obj:=⟨V,rfl⟩
     generalize ((c.setV V).fail a).obj=o2 at *
     simp[-a_load,-a_store,hlt,hex]
  rw[h3]at h1
  exact⟨W,v,h2,h1⟩
theorem stmt_ok (s:Sm):∀c:CK,c.fe=0->Way c->c.V.length+Sm.sz s<1000000000->OkS c s:=by
 induction s using Sm.ind with
 |_ s ih1 ih2=>
  intro c hf hw hsz
  have hz:=Sm.sz_eq s
  have hel:=E.szs_len s.es
  cases h:formT c.sg.has s.k s.es with
  |false=>exact stmt_F c s (by omega) h
  |true=>
   have hbd:∀d:CK,d.H=c.H->d.sg=c.sg->d.fe=0->Way d->d.V.length+Sm.szs s.bd<1000000000->OkB d s.bd:=fun d _ _ h1 h2 h3=>
    block_ok d s.bd h1 h2 h3 fun x hx e _ _ g1 g2 g3=>ih1 x hx e g1 g2 g3
   have hbe:∀d:CK,d.H=c.H->d.sg=c.sg->d.fe=0->Way d->d.V.length+Sm.szs s.el<1000000000->OkB d s.el:=fun d _ _ h1 h2 h3=>
    block_ok d s.el h1 h2 h3 fun x hx e _ _ g1 g2 g3=>ih2 x hx e g1 g2 g3
   rcases form_in h with k|k|k|k|k|k|k|k|k
   ·exact stmt_1 c s hf hw hsz k h
   ·exact stmt_2 c s hf hw hsz k h
   ·exact stmt_3 c s hf hw hsz k h
   ·exact stmt_4 c s hf hw hsz k h
   ·exact stmt_5 c s hf hw hsz k h hbd hbe
   ·exact stmt_6 c s hf hw hsz k h hbd
   ·exact stmt_7 c s hf hw hsz k h
   ·exact stmt_8 c s hf hw hsz k h
   ·exact stmt_9 c s hf hw hsz k h
theorem blk_ok (c:CK)(l:List Sm)(hf:c.fe=0)(hw:Way c)(hsz:c.V.length+Sm.szs l<1000000000):OkB c l:=
 block_ok c l hf hw hsz fun s _ d _ _ h1 h2 h3=>stmt_ok s d h1 h2 h3
end K9
namespace K9
open Ax Go Code13 V7 Par Chk
theorem clone_ok (wl lim:Nat)(l:List Vd)(st:Store)(hn:l.length<1000000000):(orcL S).call wl lim 42 [fdsV l] st=some (mkL 4 (l.map Vd.row),st):=by
 refine call_pure (sf:=s42) rfl rfl (by simp[AV.allPure]) rfl (by simp) ?_
 cases l with
 |nil=>simp[s42,fdsV,mkL_nil,eqK]
 |cons v l=>
  have hv:fdsV (v::l)=.lst 4 ((v::l).map Vd.row):=rfl
  have hap:=appV_mk (sz:=4) (bytes:=40) (r:=[]) (new:=(v::l).map Vd.row) (by simp[fits,Vd.row]) (by simp[room]at hn ⊢;omega)
  rw[hv]
  simp only[List.nil_append]at hap
  have hm:mkL 4 ((v::l).map Vd.row)=.own 4 ((v::l).map Vd.row):=rfl
  rw[hm]at hap ⊢
  have hemp:appV 4 40 .emp ((v::l).map Vd.row)=some (.own 4 ((v::l).map Vd.row)):=by
   simp[appV,fits,Vd.row,room]at hn ⊢;omega
  generalize (v::l).map Vd.row=R at *
  simp[s42,hemp,eqK]
def CK.setF (c:CK)(g:Sg):CK:={ c with sg:=g,V:=g.ps }
theorem fail_V {c:CK}{a:Int}:(c.fail a).V=c.V:=by unfold CK.fail;split<;>rfl
theorem body_ok (c:CK)(f:Fc)(g:Sg)(hf:c.fe=0)(hw:Way (c.setF g))(hsz:g.ps.length+Sm.szs f.body<1000000000):match ckB c.H g.has g.res g.ps f.body with
  |.ok (ys,W)=>∀lim,(orcL S).call 0 lim 24 [.ptr 0 0 0 0,.agg f.row,.agg g.row] [c.obj]=some (.agg [fdsV W,mkL 9 (Sm.rows ys),.int .i64 f.a],[((c.setF g).setV W).obj])
  |.error a=>∀lim,∃W v,isSl v=true/\(orcL S).call 0 lim 24 [.ptr 0 0 0 0,.agg f.row,.agg g.row] [c.obj]=some (.agg [fdsV W,v,.int .i64 f.a],[(((c.setF g).setV W).fail a).obj]):=by
 have hB:=blk_ok (c.setF g) f.body hf hw hsz
 unfold OkB at hB
 have hcd:ckB (c.setF g).H (c.setF g).sg.has (c.setF g).sg.res (c.setF g).V f.body=ckB c.H g.has g.res g.ps f.body:=rfl
 rw[hcd]at hB
 have hV:=hw.s.V
 have ec:=fun wl lim st=>clone_ok wl lim g.ps st (by exact hV)
 have h1:∀lim bx,act0 0 lim (.store 6) [.val (.ptr 0 0 0 5),.val (.agg g.row)] [c.obj] bx=some (.none,[({ c with sg:=g }:CK).obj],bx):=fun lim bx=>by
  simp[CK.obj,Sg.row,mayWrite,AV.allPure,AV.isPure,paste]
 have h2:∀lim bx,act0 0 lim (.store 1) [.val (.ptr 0 0 0 11),.val (mkL 4 (g.ps.map Vd.row))] [({ c with sg:=g }:CK).obj] bx=some (.none,[(c.setF g).obj],bx):=fun lim bx=>by
  simp[CK.obj,CK.setF,mayWrite,AV.allPure,paste]
 generalize ({ c with sg:=g }:CK).obj=o1 at *
 have g1:isSl (mkL 4 (g.ps.map Vd.row))=true:=isSl_mk
 generalize mkL 4 (g.ps.map Vd.row)=mg at *
 have g3:=isCell_sl g1
 have g4:=pure_sl g1
 have p1:isSl (fdsV g.ps)=true:=isSl_fdsV
 have p2:(fdsV g.ps).view=fdsV g.ps:=view_fdsV
 have q1:isSl (ssV f.body)=true:=isSl_ssV
 have q2:(ssV f.body).view=ssV f.body:=view_ssV
 simp only[Sg.row]at h1 ⊢
 simp only[Fc.row]
 cases hR:ckB c.H g.has g.res g.ps f.body with
 |ok x=>
  obtain⟨ys,W⟩:=x
  rw[hR]at hB
  simp only at hB ⊢
  intro lim
  have ev:=fun wl lim bx=>c_vv (wl:=wl) (lim:=lim) (c:=(c.setF g).setV W) (r:=[]) (bx:=bx)
  have hVW:((c.setF g).setV W).V=W:=rfl
  rw[hVW]at ev
  generalize ((c.setF g).setV W).obj=o3 at *
  generalize (c.setF g).obj=o2 at *
  have y1:isSl (mkL 9 (Sm.rows ys))=true:=isSl_mk
  have y2:(mkL 9 (Sm.rows ys)).view=ssV ys:=rfl
  have y3:=isCell_sl y1
  have y4:=pure_sl y1
  generalize mkL 9 (Sm.rows ys)=my at *
  have w1:isSl (fdsV W)=true:=isSl_fdsV
  have w2:(fdsV W).view=fdsV W:=view_fdsV
  generalize fdsV W=fw at *
  generalize fdsV g.ps=fg at *
  generalize ssV f.body=fb at *
  refine call_run (sf:=s24) rfl rfl rfl ?_
  simp[-a_load,-a_store,s24,ec,h1,h2,hB,ev,p1,p2,q1,q2,w1,y1,paste,AV.view,AV.isPure,AV.allPure,W_draw0,noBoxes]
 |error a=>
  rw[hR]at hB
  simp only at hB ⊢
  intro lim
  obtain⟨W,v,v1,hB⟩:=hB 1
  refine⟨W,v,v1,?_⟩
  have ev:=fun wl lim bx=>c_vv (wl:=wl) (lim:=lim) (c:=((c.setF g).setV W).fail a) (r:=[]) (bx:=bx)
  have hVW:(((c.setF g).setV W).fail a).V=W:=fail_V
  rw[hVW]at ev
  generalize (((c.setF g).setV W).fail a).obj=o3 at *
  generalize (c.setF g).obj=o2 at *
  have v3:=isCell_sl v1
  have v4:=pure_sl v1
  have v5:isSl v.view=true:=by rw[isSl_view];exact v1
  have w1:isSl (fdsV W)=true:=isSl_fdsV
  have w2:(fdsV W).view=fdsV W:=view_fdsV
  generalize fdsV W=fw at *
  generalize fdsV g.ps=fg at *
  generalize ssV f.body=fb at *
  refine call_run (sf:=s24) rfl rfl rfl ?_
  simp[-a_load,-a_store,s24,ec,h1,h2,hB,ev,p1,p2,q1,q2,w1,v1,paste,AV.view,AV.isPure,AV.allPure,W_draw0,noBoxes]
open N7 U7 in
theorem recN_gd (p:Pg):recN (dCRs (gdOf p).recs)=namesOf p:=by
 rw[dCRs_gd]
 simp[recN,namesOf,crOf]
def hdCells (H:Hd)(m:Int):List AV:=[lstV 2 (H.shapes.map shRow),fdsV H.globals,lstV 6 (H.sigs.map Sg.row),.int .i64 m]
theorem fldRows_fds (rs:List (List UInt8))(l:List PD):fldRows rs l=(fdsOf rs l).map Vd.row:=by
 simp only[fldRows,fdsOf,List.map_map]
 exact List.map_congr_left fun q _=>rfl
open N7 U7 in
def mainP (p:Pg):Int:=mainI (dFNs (gdOf p).funcs)
open N7 U7 in
theorem heads_eq (p:Pg):headsV (gdOf p)=.agg (hdCells (hdOf p) (mainP p)):=by
 unfold headsV hdCells mainP
 have h1:recRows (recN (dCRs (gdOf p).recs)) (dCRs (gdOf p).recs)=(hdOf p).shapes.map shRow:=by
  rw[recN_gd,dCRs_gd]
  simp only[recRows,hdOf,List.map_map]
  exact List.map_congr_left fun r _=>by simp only[Function.comp,recRow,crOf,dPs_lst,shRow,fldRows_fds];rfl
 have h2:fldRows (recN (dCRs (gdOf p).recs)) (dPs (gdOf p).globals)=(hdOf p).globals.map Vd.row:=by
  rw[recN_gd,dPs_gd,fldRows_fds];rfl
 have h3:sigRows (recN (dCRs (gdOf p).recs)) (dFNs (gdOf p).funcs)=(hdOf p).sigs.map Sg.row:=by
  rw[recN_gd,dFNs_gd]
  simp only[sigRows,hdOf,List.map_map]
  refine List.map_congr_left fun f _=>?_
  simp only[Function.comp,sigRow,fnOf,dPs_lst,Sg.row,sgOf,U7.resT,fldRows_fds]
  obtain⟨n,ps,has,on,od,body,a⟩:=f
  cases has<;>rfl
 rw[h1,h2,h3]
 rfl
theorem hd_ok (p:Pg):(hdOf p).ok:=by
 refine⟨by simp[hdOf,namesOf],?_,?_,?_⟩
 ·intro s hs f hf
  simp only[hdOf]at hs
  obtain⟨r,_,rfl⟩:=List.mem_map.1 hs
  simp only[fdsOf]at hf
  obtain⟨q,_,rfl⟩:=List.mem_map.1 hf
  exact type_wt _ _ _
 ·intro f hf
  simp only[hdOf,fdsOf]at hf
  obtain⟨q,_,rfl⟩:=List.mem_map.1 hf
  exact type_wt _ _ _
 ·intro s hs
  simp only[hdOf]at hs
  obtain⟨r,_,rfl⟩:=List.mem_map.1 hs
  refine⟨?_,fun f hf=>?_⟩
  ·simp only[sgOf]
   split
   ·exact type_wt _ _ _
   ·exact WT_0
  ·simp only[sgOf,fdsOf]at hf
   obtain⟨q,_,rfl⟩:=List.mem_map.1 hf
   exact type_wt _ _ _
abbrev Z5:AV:=.agg [.nilSl,.nilSl,.nilSl,.int .i64 0,.nilSl]
def bodV (H:Hd)(m:Int)(r:Except Int (List Bd)):AV:=match r with
 |.error a=>.tup [Z5,.agg [.int .i64 3,.int .i64 a]]
 |.ok l=>.tup [.agg (hdCells H m++[lstV 3 (l.map Bd.row)]),.agg [.int .i64 0,.int .i64 0]]
open N7 U7 in
def typedV (p:Pg):AV:=match faultH (gdOf p) with
 |some a=>.tup [Z5,.agg [.int .i64 3,.int .i64 a]]
 |none=>bodV (hdOf p) (mainP p) (ckF (hdOf p) (hdOf p).sigs p.funcs)
def preF (bs:List Bd)(r:Except Int (List Bd)):Except Int (List Bd):=match r with
 |.error x=>.error x
 |.ok zs=>.ok (bs++zs)
theorem ckF_drop {H:Hd}{ss:List Sg}{fs:List Fc}{bs:List Bd}{k:Nat}(h:k<ss.length)(h2:k<fs.length):preF bs (ckF H (ss.drop k) (fs.drop k))=match ckB H ss[k].has ss[k].res ss[k].ps fs[k].body with
  |.error x=>.error x
  |.ok (c,W)=>preF (bs++[⟨W,c,fs[k].a⟩]) (ckF H (ss.drop (k+1)) (fs.drop (k+1))):=by
 rw[List.drop_eq_getElem_cons h,List.drop_eq_getElem_cons h2]
 conv=>lhs;arg 2;unfold ckF
 cases ckB H ss[k].has ss[k].res ss[k].ps fs[k].body with
 |error x=>rfl
 |ok x=>
  obtain⟨c,W⟩:=x
  simp only
  cases ckF H (List.drop (k+1) ss) (List.drop (k+1) fs) with
  |error x=>rfl
  |ok x=>simp[preF]
def CK.objR (c:CK)(w:AV):AObj:=.rows 0 14 [[lstV 2 (c.H.shapes.map shRow),fdsV c.H.globals,lstV 6 (c.H.sigs.map Sg.row),.int .i64 c.main,w,.str c.sg.nm,fdsV c.sg.ps,.bool c.sg.has,.int .i64 c.sg.res.b,.int .i64 c.sg.res.r,.int .i64 c.sg.res.d,mkL 4 (c.V.map Vd.row),.int .i64 c.fe,.int .i64 c.fa]]
def CK.setR (c:CK)(R:List (List UInt8)):CK:={ c with H:={ c.H with rs:=R } }
theorem c_takeR {lim:Nat}{c:CK}{bx:Boxes}:act0 0 lim (.load false 1 true) [.val (.ptr 0 0 0 4)] [c.obj] bx=some (.val (mkL 1 (sts c.H.rs)),[c.objR (mkL 1 (sts c.H.rs)).took],bx):=by
 simp only[CK.obj,CK.objR]
 generalize sts c.H.rs=rows
 cases rows with
 |nil=>simp[act0,mkL,cut,readP,writeP,mayWrite,AV.took,AV.isPure,AV.allPure,paste,oneOrAgg]
 |cons a l=>simp[act0,mkL,cut,readP,writeP,mayWrite,AV.took,AV.isPure,AV.allPure,paste,oneOrAgg]
theorem c_putR {lim:Nat}{c:CK}{w:AV}{R:List (List UInt8)}{bx:Boxes}:act0 0 lim (.store 1) [.val (.ptr 0 0 0 4),.val (mkL 1 (sts R))] [c.objR w] bx=some (.none,[(c.setR R).obj],bx):=by
 simp[CK.obj,CK.objR,CK.setR,mayWrite,AV.allPure,paste]
theorem c_flt2 {wl lim:Nat}{c:CK}{r:Store}{bx:Boxes}:act0 wl lim (.load true 2 false) [.val (.ptr 0 0 0 12)] (c.obj::r) bx=some (.val (.agg [.int .i64 c.fe,.int .i64 c.fa]),c.obj::r,bx):=by
 simp[CK.obj,cut,AV.view]
def sg0:Sg:=⟨[],[],false,T0⟩
def ck0 (H:Hd)(m:Int)(R:List (List UInt8)):CK:=⟨{ H with rs:=R },m,sg0,[],0,0⟩
theorem rec_get {l:List Rc}{k:Nat}(h:k<l.length):(l.map Rc.row)[k]?=some [.str l[k].name,lstV 4 (l[k].fields.map PD.cells),.int .i64 l[k].a]:=by simp[h,Rc.row]
theorem fn_get {l:List Fc}{k:Nat}(h:k<l.length):(l.map Fc.row)[k]?=some [.str l[k].name,lstV 4 (l[k].params.map PD.cells),.bool l[k].has,.str l[k].on,.int .i64 l[k].od,ssV l[k].body,.int .i64 l[k].a]:=by simp[h,Fc.row]
theorem pure_bodV (H:Hd)(m:Int)(r:Except Int (List Bd)):(bodV H m r).isPure=true:=by
 cases r<;>simp[bodV,hdCells,AV.isPure,AV.allPure]
theorem pure_typedV (p:Pg):(typedV p).isPure=true:=by
 unfold typedV
 split
 ·simp[AV.isPure,AV.allPure]
 ·exact pure_bodV _ _ _
open N7 U7 in
theorem check_ok (wl lim:Nat)(p:Pg)(st:Store)(hg:(gdOf p).ok)(hsm:GD.sm (gdOf p))(hsz:∀f∈p.funcs,f.params.length+Sm.szs f.body<1000000000) :
  (orcL S).call wl lim 10 [.agg p.row] st=some (typedV p,st):=by
 have em:∀wl lim st,(orcL S).call wl lim 23 [.agg p.row] st=some (resH (gdOf p),st):=fun wl lim st=>make_ok wl lim (gdOf p) st hg hsm
 refine call_pure (sf:=s10) rfl rfl (by simp[Pg.row,AV.allPure,AV.isPure]) rfl (pure_typedV p) ?_
 unfold typedV
 unfold resH at em
 cases hF:faultH (gdOf p) with
 |some a=>
  rw[hF]at em
  simp only[zeroH,fE,fX,Pg.row]at em ⊢
  simp[-a_load,-a_store,s10,em,paste,AV.view,W_draw0,noBoxes]
 |none=>
  rw[hF,heads_eq]at em
  simp only[fE,fX,Pg.row,hdCells]at em ⊢
  have hr0:(ck0 (hdOf p) (mainP p) []).obj=.rows 0 14 [[lstV 2 ((hdOf p).shapes.map shRow),fdsV (hdOf p).globals,lstV 6 ((hdOf p).sigs.map Sg.row),.int .i64 (mainP p),.nilSl,.str [],.nilSl,.bool false,.int .i64 0,.int .i64 0,.int .i64 0,.nilSl,.int .i64 0,.int .i64 0]]:=by
   simp[CK.obj,ck0,sg0,sts,mkL_nil,fdsV]
  have hbox:∀wl lim bx,act0 wl lim (.box 14) [.val (.agg [lstV 2 ((hdOf p).shapes.map shRow),fdsV (hdOf p).globals,lstV 6 ((hdOf p).sigs.map Sg.row),.int .i64 (mainP p),.nilSl,.str [],.nilSl,.bool false,.int .i64 0,.int .i64 0,.int .i64 0,.nilSl,.int .i64 0,.int .i64 0])] [] bx =
    some (.val (.ptr 0 0 0 0),[(ck0 (hdOf p) (mainP p) []).obj],bx):=fun wl lim bx=>by rw[hr0];simp
  have t1:isSl (lstV 2 ((hdOf p).shapes.map shRow))=true:=isSl_lstV
  have t2:(lstV 2 ((hdOf p).shapes.map shRow)).view=lstV 2 ((hdOf p).shapes.map shRow):=view_lstV
  have t3:isSl (lstV 6 ((hdOf p).sigs.map Sg.row))=true:=isSl_lstV
  have t4:(lstV 6 ((hdOf p).sigs.map Sg.row)).view=lstV 6 ((hdOf p).sigs.map Sg.row):=view_lstV
  have t5:isSz 6 (lstV 6 ((hdOf p).sigs.map Sg.row))=true:=isSz_lst (by simp[fits,Sg.row])
  have t6:rowsL (lstV 6 ((hdOf p).sigs.map Sg.row))=(hdOf p).sigs.map Sg.row:=rowsL_lstV
  have r1:isSl (lstV 3 (p.recs.map Rc.row))=true:=isSl_lstV
  have r2:(lstV 3 (p.recs.map Rc.row)).view=lstV 3 (p.recs.map Rc.row):=view_lstV
  have r3:isSz 3 (lstV 3 (p.recs.map Rc.row))=true:=isSz_lst (by simp[fits,Rc.row])
  have r4:rowsL (lstV 3 (p.recs.map Rc.row))=p.recs.map Rc.row:=rowsL_lstV
  have f1:isSl (lstV 7 (p.funcs.map Fc.row))=true:=isSl_lstV
  have f2:(lstV 7 (p.funcs.map Fc.row)).view=lstV 7 (p.funcs.map Fc.row):=view_lstV
  have f3:isSz 7 (lstV 7 (p.funcs.map Fc.row))=true:=isSz_lst (by simp[fits,Fc.row])
  have f4:rowsL (lstV 7 (p.funcs.map Fc.row))=p.funcs.map Fc.row:=rowsL_lstV
  have g1:isSl (lstV 4 (p.globals.map PD.cells))=true:=isSl_lstV
  have g2:(lstV 4 (p.globals.map PD.cells)).view=lstV 4 (p.globals.map PD.cells):=view_lstV
  generalize hHS:lstV 2 ((hdOf p).shapes.map shRow)=HS at *
  generalize hHG:lstV 6 ((hdOf p).sigs.map Sg.row)=HG at *
  generalize lstV 3 (p.recs.map Rc.row)=PR at *
  generalize lstV 7 (p.funcs.map Fc.row)=PF at *
  generalize lstV 4 (p.globals.map PD.cells)=PG at *
  simp[-a_load,-a_store,-a_box,s10,em,hbox,t1,t2,t3,t4,r1,r2,r4,f1,f2,g1,g2,paste,AV.view]
  have hnl:(namesOf p).length=p.recs.length:=by simp[namesOf]
  have hrn:p.recs.length<1000000000:=by have:=hsm.recs;rw[dCRs_gd,List.length_map]at this;exact this
  have hfn:p.funcs.length<1000000000:=by have:=hsm.funcs;rw[dFNs_gd,List.length_map]at this;exact this
  have hHr:(ck0 (hdOf p) (mainP p) (namesOf p)).H=hdOf p:=rfl
  generalize hGL:fdsV (hdOf p).globals=GL at *
  have gl1:isSl GL=true:=by rw[<-hGL];exact isSl_fdsV
  have gl2:GL.view=GL:=by rw[<-hGL];exact view_fdsV
  refine W_loopI s10_l0.eq_1 (fun x:Nat×List AV=>⟨[(1,.fp 0 0),(2,.fp 1 0),(3,.fp 2 0),(4,.fp 3 0),(6,.val (.ptr 0 0 0 0)),(26,.val PR),(27,.val (.int .i64 p.recs.length)),(28,.val (.int .i64 x.1))],
   [[PR,PG,PF],[.nilSl,.nilSl,.nilSl,.int .i64 0,.nilSl],[.int .i64 0,.int .i64 0],[HS,GL,HG,.int .i64 (mainP p)],[.int .i64 0,.int .i64 0],x.2,[],[]],[(ck0 (hdOf p) (mainP p) ((namesOf p).take x.1)).obj]⟩)
   (fun x=>x.1<=p.recs.length) (fun x=>p.recs.length-x.1) (0,[]) (by simp) (by simp) ?_
  rintro⟨k,b⟩ hk ih
  simp only at hk ih
  by_cases hlt:k<p.recs.length
  ·have hwr:IntKind.i64.wrap ((k:Int)+1)=((k+1:Nat):Int):=by rw[wrap64]<;>omega
   have gR:=rec_get hlt
   have gR':∀h:k<(p.recs.map Rc.row).length,(p.recs.map Rc.row)[k]=[.str p.recs[k].name,lstV 4 (p.recs[k].fields.map PD.cells),.int .i64 p.recs[k].a]:=fun h=>by simp[Rc.row]
   have hap:=appV_mk (sz:=1) (bytes:=16) (r:=sts ((namesOf p).take k)) (new:=[[.str p.recs[k].name]]) (by simp[fits]) (by simp[room,sts];omega)
   have hrw:sts ((namesOf p).take k)++[[.str p.recs[k].name]]=sts ((namesOf p).take (k+1)):=by
    rw[List.take_succ_eq_append_getElem (by rw[hnl];exact hlt)]
    simp[sts,namesOf]
   rw[hrw]at hap
   have et:=fun lim bx=>c_takeR (lim:=lim) (c:=ck0 (hdOf p) (mainP p) ((namesOf p).take k)) (bx:=bx)
   have ep:=fun lim bx=>c_putR (lim:=lim) (c:=ck0 (hdOf p) (mainP p) ((namesOf p).take k)) (w:=(mkL 1 (sts ((namesOf p).take k))).took) (R:=(namesOf p).take (k+1)) (bx:=bx)
   have hcc:(ck0 (hdOf p) (mainP p) ((namesOf p).take k)).setR ((namesOf p).take (k+1))=ck0 (hdOf p) (mainP p) ((namesOf p).take (k+1)):=rfl
   rw[hcc]at ep
   have hcr:(ck0 (hdOf p) (mainP p) ((namesOf p).take k)).H.rs=(namesOf p).take k:=rfl
   rw[hcr]at et
   have ih':=fun b=>ih (k+1,b) (by simp only;omega) (by simp only;omega)
   simp only at ih'
   generalize (ck0 (hdOf p) (mainP p) ((namesOf p).take (k+1))).obj=o1 at *
   generalize (ck0 (hdOf p) (mainP p) ((namesOf p).take k)).objR (mkL 1 (sts ((namesOf p).take k))).took=o2 at *
   generalize (ck0 (hdOf p) (mainP p) ((namesOf p).take k)).obj=o3 at *
   generalize mkL 1 (sts ((namesOf p).take (k+1)))=m1 at *
   generalize mkL 1 (sts ((namesOf p).take k))=m2 at *
   generalize p.recs[k]=rc at *
   simp[-a_load,-a_store,a_loadE,hlt,hwr,r3,r4,gR',et,ep,hap,paste,AV.view,W_draw0,noBoxes]
   exact ih' _
  ·have hkl:k=p.recs.length:=by omega
   subst hkl
   have htk:(namesOf p).take p.recs.length=namesOf p:=by rw[<-hnl,List.take_length]
   rw[htk]
   simp[-a_load,-a_store,t1,t2,t3,t4,f1,f2,f4,gl1,gl2,paste,AV.view]
   have hsl:(hdOf p).sigs.length=p.funcs.length:=by simp[hdOf]
   have hway:∀(d:CK) (g:Sg),d.H=hdOf p->g∈(hdOf p).sigs->Way (d.setF g):=fun d g hd hg'=>by
    have hok:=hd_ok p
    have hgl:(hdOf p).globals.length<1000000000:=by have:=hsm.globals;rw[dPs_gd]at this;simpa [hdOf,fdsOf] using this
    have hF:∀s∈(hdOf p).shapes,s.2.length<1000000000:=fun s hs=>by
     obtain⟨r,hr,rfl⟩:=List.mem_map.1 hs
     have:=hsm.fields (crOf r) (by rw[dCRs_gd];exact List.mem_map_of_mem hr)
     simpa [crOf,dPs_lst,fdsOf] using this
    have hP:∀s∈(hdOf p).sigs,s.ps.length<1000000000:=fun s hs=>by
     obtain⟨r,hr,rfl⟩:=List.mem_map.1 hs
     have:=hsm.params (fnOf r) (by rw[dFNs_gd];exact List.mem_map_of_mem hr)
     simpa [fnOf,dPs_lst,sgOf,fdsOf] using this
    refine⟨⟨hP g hg',?_,?_,?_,?_,?_⟩,?_,?_⟩
    ·show d.H.globals.length<_;rw[hd];exact hgl
    ·show d.H.sigs.length<_;rw[hd,hsl];exact hfn
    ·show d.H.rs.length<_;rw[hd];show (namesOf p).length<_;rw[hnl];exact hrn
    ·show ∀s∈d.H.shapes,_;rw[hd];exact hF
    ·show ∀s∈d.H.sigs,_;rw[hd];exact hP
    ·show d.H.ok;rw[hd];exact hok
    ·show ∀f∈g.ps,WT d.H.rs.length f.ty;rw[hd];exact(hok.sigs g hg').2
   refine W_loopI s10_l1.eq_1 (fun x:Nat×List Bd×CK×List AV=>⟨[(2,.fp 1 0),(3,.fp 2 0),(4,.fp 3 0),(6,.val (.ptr 0 0 0 0)),(9,.fp 6 0),(47,.val PF),(48,.val (.int .i64 p.funcs.length)),(49,.val (.int .i64 x.1))],
    [[PR,PG,PF],[.nilSl,.nilSl,.nilSl,.int .i64 0,.nilSl],[.int .i64 0,.int .i64 0],[HS,GL,HG,.int .i64 (mainP p)],[.int .i64 0,.int .i64 0],b,[HS,GL,HG,.int .i64 (mainP p),mkL 3 (x.2.1.map Bd.row)],x.2.2.2],[x.2.2.1.obj]⟩)
    (fun x=>x.1<=p.funcs.length/\x.2.1.length=x.1/\x.2.2.1.H=hdOf p/\x.2.2.1.fe=0/\preF x.2.1 (ckF (hdOf p) ((hdOf p).sigs.drop x.1) (p.funcs.drop x.1))=ckF (hdOf p) (hdOf p).sigs p.funcs)
    (fun x=>p.funcs.length-x.1) (0,[],ck0 (hdOf p) (mainP p) (namesOf p),[]) (by simp[mkL_nil]) ⟨by simp,rfl,rfl,rfl,by simp[preF];split<;>rename_i h<;>exact h.symm⟩ ?_
   rintro⟨k,bs,d,b7⟩ ⟨hk,hbs,hd,hdf,hp⟩ ih
   simp only at hk hbs hd hdf hp ih
   by_cases hlt2:k<p.funcs.length
   ·have hks:k<(hdOf p).sigs.length:=by omega
    have hwr:IntKind.i64.wrap ((k:Int)+1)=((k+1:Nat):Int):=by rw[wrap64]<;>omega
    have gF:=fn_get hlt2
    have gF':∀h:k<(p.funcs.map Fc.row).length,(p.funcs.map Fc.row)[k]=[.str p.funcs[k].name,lstV 4 (p.funcs[k].params.map PD.cells),.bool p.funcs[k].has,.str p.funcs[k].on,.int .i64 p.funcs[k].od,ssV p.funcs[k].body,.int .i64 p.funcs[k].a]:=fun h=>by simp[Fc.row]
    have gS:((hdOf p).sigs.map Sg.row)[k]?=some [.str (hdOf p).sigs[k].nm,fdsV (hdOf p).sigs[k].ps,.bool (hdOf p).sigs[k].has,.int .i64 (hdOf p).sigs[k].res.b,.int .i64 (hdOf p).sigs[k].res.r,.int .i64 (hdOf p).sigs[k].res.d]:=by simp[hks,Sg.row]
    have gS':∀h:k<((hdOf p).sigs.map Sg.row).length,((hdOf p).sigs.map Sg.row)[k]=[.str (hdOf p).sigs[k].nm,fdsV (hdOf p).sigs[k].ps,.bool (hdOf p).sigs[k].has,.int .i64 (hdOf p).sigs[k].res.b,.int .i64 (hdOf p).sigs[k].res.r,.int .i64 (hdOf p).sigs[k].res.d]:=fun h=>by simp[Sg.row]
    rw[ckF_drop hks hlt2]at hp
    have hps:(hdOf p).sigs[k].ps.length=p.funcs[k].params.length:=by simp[hdOf,sgOf,fdsOf]
    have hB:=body_ok d p.funcs[k] (hdOf p).sigs[k] hdf (hway d _ hd (List.getElem_mem hks)) (by rw[hps];exact hsz _ (List.getElem_mem hlt2))
    rw[hd]at hB
    have hap:∀cs:List AV,cs.length=3->appV 3 56 (mkL 3 (bs.map Bd.row)) [cs]=some (mkL 3 (bs.map Bd.row++[cs])):=fun cs hc=>appV_mk (by simp[fits,hc]) (by simp[room];omega)
    have ps1:isSl (lstV 4 (p.funcs[k].params.map PD.cells))=true:=isSl_lstV
    have ps2:(lstV 4 (p.funcs[k].params.map PD.cells)).view=lstV 4 (p.funcs[k].params.map PD.cells):=view_lstV
    have bd1:isSl (ssV p.funcs[k].body)=true:=isSl_ssV
    have bd2:(ssV p.funcs[k].body).view=ssV p.funcs[k].body:=view_ssV
    have sp1:isSl (fdsV (hdOf p).sigs[k].ps)=true:=isSl_fdsV
    have sp2:(fdsV (hdOf p).sigs[k].ps).view=fdsV (hdOf p).sigs[k].ps:=view_fdsV
    simp only[Fc.row,Sg.row]at hB
    generalize hrS:(hdOf p).sigs.map Sg.row=RS at *
    generalize hrF:p.funcs.map Fc.row=RF at *
    have hkRS:k<RS.length:=by rw[<-hrS,List.length_map];exact hks
    have hkRF:k<RF.length:=by rw[<-hrF,List.length_map];exact hlt2
    have gS'':=gS' hkRS
    have gF'':=gF' hkRF
    clear gS' gF'
    cases hR:ckB (hdOf p) (hdOf p).sigs[k].has (hdOf p).sigs[k].res (hdOf p).sigs[k].ps p.funcs[k].body with
    |error a=>
     rw[hR]at hp hB
     simp only at hp hB
     obtain⟨W,v,v1,hB⟩:=hB 0
     have hfe:(((d.setF (hdOf p).sigs[k]).setV W).fail a).fe=3/\(((d.setF (hdOf p).sigs[k]).setV W).fail a).fa=a:=by
      have:((d.setF (hdOf p).sigs[k]).setV W).fe=0:=hdf
      unfold CK.fail
      rw[if_pos this]
      exact⟨rfl,rfl⟩
     have eok:=fun lim=>failed_ok lim (((d.setF (hdOf p).sigs[k]).setV W).fail a) []
     rw[decide_eq_false fail_fe]at eok
     have hcf:∀wl lim bx,act0 wl lim (.load true 2 false) [.val (.ptr 0 0 0 12)] [(((d.setF (hdOf p).sigs[k]).setV W).fail a).obj] bx=some (.val (.agg [.int .i64 3,.int .i64 a]),[(((d.setF (hdOf p).sigs[k]).setV W).fail a).obj],bx):=fun wl lim bx=>by
      rw[c_flt2,hfe.1,hfe.2]
     rw[<-hp]
     simp only[bodV]
     generalize (((d.setF (hdOf p).sigs[k]).setV W).fail a).obj=o1 at *
     have w1:isSl (fdsV W)=true:=isSl_fdsV
     have w2:(fdsV W).view=fdsV W:=view_fdsV
     generalize fdsV W=FW at *
     have ap:=hap [FW,v.view,.int .i64 p.funcs[k].a] rfl
     have v2:=isCell_sl v1
     have v3:=pure_sl v1
     have v4:isSl v.view=true:=by rw[isSl_view];exact v1
     generalize lstV 4 (p.funcs[k].params.map PD.cells)=PP at *
     generalize ssV p.funcs[k].body=PB at *
     generalize fdsV (hdOf p).sigs[k].ps=SP at *
     generalize mkL 3 (bs.map Bd.row)=BL at *
     generalize p.funcs[k]=fk at *
     generalize (hdOf p).sigs[k]=gk at *
     simp[-a_load,-a_store,a_loadE,hlt2,f3,f4,gF'',gS'',hkRS,hkRF,t4,t5,t6,ps1,ps2,bd1,bd2,sp2,hB,w1,w2,v4,ap,eok,hcf,paste,AV.view,AV.isPure,AV.allPure,W_draw0,noBoxes]
    |ok x=>
     obtain⟨c,W⟩:=x
     rw[hR]at hp hB
     simp only at hp hB
     have ih':=fun b7=>ih (k+1,bs++[⟨W,c,p.funcs[k].a⟩],(d.setF (hdOf p).sigs[k]).setV W,b7) ⟨by simp only;omega,by simp[hbs],hd,hdf,hp⟩ (by simp only;omega)
     simp only[List.map_append,List.map_cons,List.map_nil,Bd.row]at ih'
     have eok:=fun lim=>failed_ok lim ((d.setF (hdOf p).sigs[k]).setV W) []
     rw[decide_eq_true (show ((d.setF (hdOf p).sigs[k]).setV W).fe=0 from hdf)]at eok
     generalize ((d.setF (hdOf p).sigs[k]).setV W).obj=o1 at *
     have w1:isSl (fdsV W)=true:=isSl_fdsV
     have w2:(fdsV W).view=fdsV W:=view_fdsV
     generalize fdsV W=FW at *
     have ap:=hap [FW,ssV c,.int .i64 p.funcs[k].a] rfl
     have c1:isSl (mkL 9 (Sm.rows c))=true:=isSl_mk
     have c2:(mkL 9 (Sm.rows c)).view=ssV c:=rfl
     have c3:=isCell_sl c1
     have c4:=pure_sl c1
     have c5:isSl (ssV c)=true:=isSl_ssV
     generalize mkL 9 (Sm.rows c)=MC at *
     generalize ssV c=SC at *
     generalize lstV 4 (p.funcs[k].params.map PD.cells)=PP at *
     generalize ssV p.funcs[k].body=PB at *
     generalize fdsV (hdOf p).sigs[k].ps=SP at *
     have n1:isSl (mkL 3 (bs.map Bd.row++[[FW,SC,.int .i64 p.funcs[k].a]]))=true:=isSl_mk
     generalize mkL 3 (bs.map Bd.row++[[FW,SC,.int .i64 p.funcs[k].a]])=BN at *
     generalize mkL 3 (bs.map Bd.row)=BL at *
     generalize p.funcs[k]=fk at *
     generalize (hdOf p).sigs[k]=gk at *
     simp[-a_load,-a_store,a_loadE,hlt2,hwr,f3,f4,gF'',gS'',hkRS,hkRF,t4,t5,t6,ps1,ps2,bd1,bd2,sp2,hB,w1,w2,c2,c5,n1,ap,eok,paste,AV.view,AV.isPure,AV.allPure,W_draw0,noBoxes]
     exact ih' _
   ·have hkl:k=p.funcs.length:=by omega
    have hR:ckF (hdOf p) (hdOf p).sigs p.funcs=.ok bs:=by
     rw[<-hp,hkl,List.drop_length,<-hsl,List.drop_length]
     simp[ckF,preF]
    rw[hR]
    have n1:isSl (mkL 3 (bs.map Bd.row))=true:=isSl_mk
    have n2:(mkL 3 (bs.map Bd.row)).view=lstV 3 (bs.map Bd.row):=rfl
    have n3:=isCell_sl n1
    have n4:isSl (lstV 3 (bs.map Bd.row))=true:=isSl_lstV
    simp only[bodV,hdCells]
    rw[hHS,hHG,hGL]
    generalize mkL 3 (bs.map Bd.row)=BL at *
    generalize lstV 3 (bs.map Bd.row)=BV at *
    simp[-a_load,-a_store,hlt2,t1,t2,t3,t4,gl1,gl2,n2,n4,paste,AV.view]
end K9
