/-
  The document's type checker: small functions.
-/
import Derived.Test.YtegibojgmandmaaGreatD
import Derived.Test.YtegibojgmandmaaGreatQ

set_option maxRecDepth 100000
set_option maxHeartbeats 8000000
namespace R9
open Ax Go Code9z V7 Par Chk K9
variable {pre:Store}
theorem getp {α:Type}{l:List α}(p:List α)(i:Nat):(p++l)[p.length+i]?=l[i]?:=by
 rw[List.getElem?_append_right (by omega)];simp
theorem takep {α:Type}{l:List α}(p:List α)(i:Nat):(p++l).take (p.length+i)=p++l.take i:=by
 rw[List.take_append,List.take_of_length_le (by omega),Nat.add_sub_cancel_left]
attribute [simp] getp takep
theorem c_fe {wl lim:Nat}{c:CK}{r:Store}{bx:Boxes}:act0 wl lim (.load false 1 false) [.val (.ptr pre.length 0 0 12)] (pre++c.obj::r) bx=some (.val (.int .i64 c.fe),pre++c.obj::r,bx):=by
 simp[CK.obj,cut,AV.view]
theorem c_rc {wl lim:Nat}{c:CK}{r:Store}{bx:Boxes}:act0 wl lim (.load false 1 false) [.val (.ptr pre.length 0 0 4)] (pre++c.obj::r) bx=some (.val (lstV 1 (sts c.H.rs)),pre++c.obj::r,bx):=by
 simp[CK.obj,cut,lstV]
theorem c_sh {wl lim:Nat}{c:CK}{r:Store}{bx:Boxes}:act0 wl lim (.load false 1 false) [.val (.ptr pre.length 0 0 0)] (pre++c.obj::r) bx=some (.val (lstV 2 (c.H.shapes.map shRow)),pre++c.obj::r,bx):=by
 simp[CK.obj,cut]
theorem c_gl {wl lim:Nat}{c:CK}{r:Store}{bx:Boxes}:act0 wl lim (.load false 1 false) [.val (.ptr pre.length 0 0 1)] (pre++c.obj::r) bx=some (.val (fdsV c.H.globals),pre++c.obj::r,bx):=by
 simp[CK.obj,cut]
theorem c_si {wl lim:Nat}{c:CK}{r:Store}{bx:Boxes}:act0 wl lim (.load false 1 false) [.val (.ptr pre.length 0 0 2)] (pre++c.obj::r) bx=some (.val (lstV 6 (c.H.sigs.map Sg.row)),pre++c.obj::r,bx):=by
 simp[CK.obj,cut]
theorem c_has {wl lim:Nat}{c:CK}{r:Store}{bx:Boxes}:act0 wl lim (.load false 1 false) [.val (.ptr pre.length 0 0 7)] (pre++c.obj::r) bx=some (.val (.bool c.sg.has),pre++c.obj::r,bx):=by
 simp[CK.obj,cut,AV.view]
theorem c_res {wl lim:Nat}{c:CK}{r:Store}{bx:Boxes}:act0 wl lim (.load true 3 false) [.val (.ptr pre.length 0 0 8)] (pre++c.obj::r) bx=some (.val (.agg [.int .i64 c.sg.res.b,.int .i64 c.sg.res.r,.int .i64 c.sg.res.d]),pre++c.obj::r,bx):=by
 simp[CK.obj,cut,AV.view]
theorem c_vv {wl lim:Nat}{c:CK}{r:Store}{bx:Boxes}:act0 wl lim (.load false 1 false) [.val (.ptr pre.length 0 0 11)] (pre++c.obj::r) bx=some (.val (fdsV c.V),pre++c.obj::r,bx):=by
 simp[CK.obj,cut,fdsV,lstV]
theorem c_flt {lim:Nat}{c:CK}{a:Int}{r:Store}{bx:Boxes}:act0 0 lim (.store 2) [.val (.ptr pre.length 0 0 12),.val (.agg [.int .i64 3,.int .i64 a])] (pre++c.obj::r) bx=some (.none,pre++({ c with fe:=3,fa:=a }:CK).obj::r,bx):=by
 simp[CK.obj,mayWrite,AV.allPure,AV.isPure,paste]
theorem ok_ok (lim:Nat)(c:CK)(r:Store):(orcL S).call 0 lim 29 [.ptr pre.length 0 0 0] (pre++c.obj::r)=some (.bool (decide (c.fe=0)),pre++c.obj::r):=by
 refine call_run (sf:=s29) rfl rfl rfl ?_
 simp[-a_load,-a_store,s29,c_fe]
theorem rfail_ok (lim:Nat)(c:CK)(a:Int)(r:Store):(orcL S).call 0 lim 66 [.ptr pre.length 0 0 0,.int .i64 a] (pre++c.obj::r)=some (.tup [],pre++(c.fail a).obj::r):=by
 have e:=fun lim=>ok_ok (pre:=pre) lim c r
 have ew:=fun wl lim st=>U7.wrong_ok wl lim a st
 refine call_run (sf:=s66) rfl rfl rfl ?_
 unfold CK.fail
 by_cases h:c.fe=0
 ·rw[if_pos h]
  simp[-a_load,-a_store,s66,e,ew,h,c_flt]
 ·rw[if_neg h]
  simp[-a_load,-a_store,s66,e,h]
theorem tbool_ok (wl lim:Nat)(st:Store):(orcL S).call wl lim 70 [] st=some (.agg [.int .i64 2,.int .i64 0,.int .i64 0],st):=by
 refine call_pure (sf:=s70) rfl rfl (by simp) rfl (by simp[AV.isPure,AV.allPure]) ?_
 simp[s70,paste]
theorem tint_ok (wl lim:Nat)(st:Store):(orcL S).call wl lim 71 [] st=some (.agg [.int .i64 1,.int .i64 0,.int .i64 0],st):=by
 refine call_pure (sf:=s71) rfl rfl (by simp) rfl (by simp[AV.isPure,AV.allPure]) ?_
 simp[s71,paste]
def kidsT (k:Int):Int:=
 if k=1\/k=2\/k=3\/k=4\/k=8\/k=11 then 0
 else if k=5\/k=9\/k=10\/k=12\/k=13 then 1
 else if k=7 then -1
 else if k=6\/k=14\/k=15\/k=16\/k=17\/k=18\/k=19\/k=20\/k=21\/k=22\/k=23\/k=24 then 2
 else -2
theorem kids_ok (wl lim:Nat)(k:Int)(st:Store):(orcL S).call wl lim 78 [.int .i64 k] st=some (.int .i64 (kidsT k),st):=by
 refine call_pure (sf:=s78) rfl rfl (by simp) rfl (by simp) ?_
 unfold kidsT
 by_cases h1:k=1
 ·subst h1;simp[s78]
 by_cases h2:k=2
 ·subst h2;simp[s78]
 by_cases h3:k=3
 ·subst h3;simp[s78]
 by_cases h4:k=4
 ·subst h4;simp[s78]
 by_cases h8:k=8
 ·subst h8;simp[s78]
 by_cases h11:k=11
 ·subst h11;simp[s78]
 by_cases h5:k=5
 ·subst h5;simp[s78]
 by_cases h9:k=9
 ·subst h9;simp[s78]
 by_cases h10:k=10
 ·subst h10;simp[s78]
 by_cases h12:k=12
 ·subst h12;simp[s78]
 by_cases h13:k=13
 ·subst h13;simp[s78]
 by_cases h7:k=7
 ·subst h7;simp[s78]
 by_cases h6:k=6
 ·subst h6;simp[s78]
 by_cases h14:k=14
 ·subst h14;simp[s78]
 by_cases h15:k=15
 ·subst h15;simp[s78]
 by_cases h16:k=16
 ·subst h16;simp[s78]
 by_cases h17:k=17
 ·subst h17;simp[s78]
 by_cases h18:k=18
 ·subst h18;simp[s78]
 by_cases h19:k=19
 ·subst h19;simp[s78]
 by_cases h20:k=20
 ·subst h20;simp[s78]
 by_cases h21:k=21
 ·subst h21;simp[s78]
 by_cases h22:k=22
 ·subst h22;simp[s78]
 by_cases h23:k=23
 ·subst h23;simp[s78]
 by_cases h24:k=24
 ·subst h24;simp[s78]
 simp[s78,h1,h2,h3,h4,h5,h6,h7,h8,h9,h10,h11,h12,h13,h14,h15,h16,h17,h18,h19,h20,h21,h22,h23,h24]
theorem kids_kinds (k n:Int)(m:Nat):kindsT k n m = !(decide (kidsT k = -2)||(decide (0<=kidsT k) && !decide ((m:Int)=kidsT k))||(decide (k=2)&&(!decide (n=0) && !decide (n=1)))):=by
 have m0:((m:Int)=0)=(m=0):=by simp
 have m1:((m:Int)=1)=(m=1):=by apply propext;omega
 have m2:((m:Int)=2)=(m=2):=by apply propext;omega
 unfold kindsT kidsT
 by_cases h:k=1\/k=3\/k=4\/k=8\/k=11
 ·rcases h with h|h|h|h|h<;>subst h<;>simp
 by_cases h2:k=2
 ·subst h2;by_cases q:n=0<;>by_cases p:n=1<;>simp[p,q]
 by_cases h7:k=7
 ·subst h7;simp
 by_cases h5:k=5\/k=9\/k=10\/k=12\/k=13
 ·rcases h5 with h|h|h|h|h<;>subst h<;>simp[m1]
 rw[if_neg h,if_neg h2,if_neg h7,if_neg h5,if_neg (by omega),if_neg h5,if_neg h7]
 by_cases g:k=6\/14<=k/\k<=24
 ·have e:(decide (k=6)||decide (14<=k)&&decide (k<=24))=true:=by simpa using g
  rw[if_pos (by omega),e]
  simp[m2,h2]
 ·have e:(decide (k=6)||decide (14<=k)&&decide (k<=24))=false:=by simp only[Bool.or_eq_false_iff,Bool.and_eq_false_iff,decide_eq_false_iff_not];omega
  rw[if_neg (by omega),e]
  simp
end R9
namespace R9
open Ax Go Code9z V7 Par Chk K9
variable {pre:Store}
theorem variable_ok (lim:Nat)(c:CK)(s:List UInt8)(r:Store)(hs:Small c):(orcL S).call 0 lim 69 [.ptr pre.length 0 0 0,.str s] (pre++c.obj::r)=some (varV (varT c.H c.V s),pre++c.obj::r):=by
 have hV:=hs.V
 have hG:=hs.G
 have hzV:isSz 4 (fdsV c.V)=true:=isSz_fdsV
 have hzG:isSz 4 (fdsV c.H.globals)=true:=isSz_fdsV
 have hsV:isSl (fdsV c.V)=true:=isSl_fdsV
 have hsG:isSl (fdsV c.H.globals)=true:=isSl_fdsV
 have hrV:rowsL (fdsV c.V)=c.V.map Vd.row:=rows_fdsV
 have hrG:rowsL (fdsV c.H.globals)=c.H.globals.map Vd.row:=rows_fdsV
 have evv:=fun wl lim bx=>c_vv (pre:=pre) (wl:=wl) (lim:=lim) (c:=c) (r:=r) (bx:=bx)
 have egl:=fun wl lim bx=>c_gl (pre:=pre) (wl:=wl) (lim:=lim) (c:=c) (r:=r) (bx:=bx)
 generalize fdsV c.V=VV at *
 generalize fdsV c.H.globals=GV at *
 refine call_run (sf:=s69) rfl rfl rfl ?_
 generalize c.obj=o at *
 simp[-a_load,-a_store,s69]
 refine W_loopI s69_l0.eq_1 (fun q:Nat×Int=>⟨[(0,.val (.ptr pre.length 0 0 0)),(1,.val (.str s)),(5,.fp 0 0),(7,.val (.int .i64 q.1))],[[.int .i64 0,.int .i64 0,.int .i64 0]],pre++o::r⟩)
  (fun q=>q.1<=c.V.length/\lookF s 0 c.V=lookF s q.1 (c.V.drop q.1)) (fun q=>c.V.length-q.1) (0,0) (by simp) ⟨by simp,by simp⟩ ?_
 rintro⟨k,bb⟩ ⟨hk,hp⟩ ih
 simp only at hk hp ih
 by_cases hlt:k<c.V.length
 ·have hw:IntKind.i64.wrap ((k:Int)+1)=((k+1:Nat):Int):=by rw[wrap64]<;>omega
  rw[look_drop hlt]at hp
  by_cases e:c.V[k].nm=s
  ·rw[if_pos e]at hp
   unfold varT
   rw[hp]
   simp[-a_load,-a_store,a_loadE,evv,hsV,hzV,hrV,hlt,e,Vd.row,varV,W_draw0,noBoxes,paste]
  ·rw[if_neg e]at hp
   simp[-a_load,-a_store,a_loadE,evv,hsV,hzV,hrV,hlt,e,Vd.row,hw]
   exact ih (k+1,0) ⟨by simp;omega,hp⟩ (by simp;omega)
 ·have hkl:k=c.V.length:=by omega
  have hno:lookF s 0 c.V=none:=by rw[hp,hkl,List.drop_length];rfl
  simp[-a_load,-a_store,evv,hsV,hrV,hlt]
  clear ih
  refine W_loopI s69_l1.eq_1 (fun q:Nat×Int=>⟨[(0,.val (.ptr pre.length 0 0 0)),(1,.val (.str s)),(5,.fp 0 0),(8,.val (.int .i64 q.1))],[[.int .i64 0,.int .i64 0,.int .i64 0]],pre++o::r⟩)
   (fun q=>q.1<=c.H.globals.length/\lookF s 0 c.H.globals=lookF s q.1 (c.H.globals.drop q.1)) (fun q=>c.H.globals.length-q.1) (0,0) (by simp) ⟨by simp,by simp⟩ ?_
  rintro⟨k,bb⟩ ⟨hk,hp⟩ ih
  simp only at hk hp ih
  by_cases hlt:k<c.H.globals.length
  ·have hw:IntKind.i64.wrap ((k:Int)+1)=((k+1:Nat):Int):=by rw[wrap64]<;>omega
   have hw2:IntKind.i64.wrap (-1-(k:Int)) = -1-(k:Int):=by rw[wrap64]<;>omega
   rw[look_drop hlt]at hp
   by_cases e:c.H.globals[k].nm=s
   ·rw[if_pos e]at hp
    unfold varT
    rw[hno,hp]
    simp[-a_load,-a_store,a_loadE,egl,hsG,hzG,hrG,hlt,e,hw2,Vd.row,varV,W_draw0,noBoxes,paste]
   ·rw[if_neg e]at hp
    simp[-a_load,-a_store,a_loadE,egl,hsG,hzG,hrG,hlt,e,Vd.row,hw]
    exact ih (k+1,0) ⟨by simp;omega,hp⟩ (by simp;omega)
  ·have hkl:k=c.H.globals.length:=by omega
   have hno2:lookF s 0 c.H.globals=none:=by rw[hp,hkl,List.drop_length];rfl
   unfold varT
   rw[hno,hno2]
   simp[-a_load,-a_store,egl,hsG,hrG,hlt,varV,paste]
theorem formed_ok (lim:Nat)(c:CK)(s:Sm)(r:Store)(_hn:s.es.length<1000000000):(orcL S).call 0 lim 65 [.ptr pre.length 0 0 0,.agg s.row] (pre++c.obj::r)=some (.bool (formT c.sg.has s.k s.es),pre++c.obj::r):=by
 have hrow:=Sm.row_eq s
 have hz:isSz 11 (esV s.es)=true:=isSz_E
 have hsl:isSl (esV s.es)=true:=isSl_esV
 have hvw:(esV s.es).view=esV s.es:=view_esV
 have hrE:rowsL (esV s.es)=E.rows s.es:=rowsL_lstV
 have m0:((s.es.length:Int)=0)=(s.es.length=0):=by simp
 have m1:((s.es.length:Int)=1)=(s.es.length=1):=by apply propext;omega
 have m2:((s.es.length:Int)=2)=(s.es.length=2):=by apply propext;omega
 rw[hrow]
 generalize s.k=k at *
 unfold formT
 have b1:isSl (ssV s.bd)=true:=isSl_ssV
 have b2:(ssV s.bd).view=ssV s.bd:=view_ssV
 have l1:isSl (ssV s.el)=true:=isSl_ssV
 have l2:(ssV s.el).view=ssV s.el:=view_ssV
 generalize ssV s.bd=bv at *
 generalize ssV s.el=lv at *
 have hc:=fun wl lim bx=>c_has (pre:=pre) (wl:=wl) (lim:=lim) (c:=c) (r:=r) (bx:=bx)
 generalize c.obj=o at *
 refine call_run (sf:=s65) rfl rfl rfl ?_
 by_cases h1:k=1
 ·subst h1
  generalize esV s.es=kv at *
  by_cases q0:s.es.length=0
  ·simp[-a_load,-a_store,s65,hsl,hvw,hrE,q0,b1,l1,AV.view]
  ·simp[-a_load,-a_store,s65,hsl,hvw,hrE,q0,b1,l1,AV.view]
 by_cases h4:k=4
 ·subst h4
  simp only[if_neg h1,if_true]
  match hes:s.es,hrE,m2 with
  |[e,e2],hrE,m2=>
   rw[hes]at hz hsl hvw
   simp only[E.rows]at hrE
   rw[E.row_eq e,E.row_eq e2]at hrE
   generalize esV [e,e2]=kv at *
   by_cases q:e.k=5
   ·simp[-a_load,-a_store,s65,a_loadE,hz,hsl,hvw,hrE,q,b1,l1,AV.view]
   ·simp[-a_load,-a_store,s65,a_loadE,hz,hsl,hvw,hrE,q,b1,l1,AV.view]
  |[],hrE,m2=>
   rw[hes]at hz hsl hvw
   generalize esV []=kv at *
   simp[-a_load,-a_store,s65,hsl,hvw,hrE,b1,l1,E.rows,AV.view]
  |[e],hrE,m2=>
   rw[hes]at hz hsl hvw
   simp only[E.rows]at hrE
   generalize esV [e]=kv at *
   simp[-a_load,-a_store,s65,hsl,hvw,hrE,b1,l1,AV.view]
  |e::e2::e3::l,hrE,m2=>
   rw[hes]at hz hsl hvw
   have hl3:¬((E.rows (e::e2::e3::l)).length:Int)=2:=by simp;omega
   generalize esV (e::e2::e3::l)=kv at *
   generalize E.rows (e::e2::e3::l)=rws at *
   simp[-a_load,-a_store,s65,hsl,hvw,hrE,hl3,b1,l1,AV.view]
 by_cases h7:k=7
 ·subst h7
  simp only[if_neg h1,if_neg h4,if_true]
  generalize esV s.es=kv at *
  cases hh:c.sg.has with
  |false=>
   rw[hh]at hc
   by_cases q0:s.es.length=0
   ·simp[-a_load,-a_store,s65,hsl,hvw,hrE,q0,b1,l1,hc,AV.view]
   ·simp[-a_load,-a_store,s65,hsl,hvw,hrE,q0,b1,l1,hc,AV.view]
  |true=>
   rw[hh]at hc
   by_cases q1:s.es.length=1
   ·simp[-a_load,-a_store,s65,hsl,hvw,hrE,q1,b1,l1,hc,AV.view]
   ·simp[-a_load,-a_store,s65,hsl,hvw,hrE,m1,q1,b1,l1,hc,AV.view]
 by_cases h9:k=9
 ·subst h9
  simp only[if_neg h1,if_neg h4,if_neg h7,if_true]
  match hes:s.es,hrE,m2 with
  |[e],hrE,m2=>
   rw[hes]at hz hsl hvw
   simp only[E.rows]at hrE
   rw[E.row_eq e]at hrE
   generalize esV [e]=kv at *
   simp[-a_load,-a_store,s65,a_loadE,hz,hsl,hvw,hrE,b1,l1,AV.view]
  |[],hrE,m2=>
   rw[hes]at hz hsl hvw
   generalize esV []=kv at *
   simp[-a_load,-a_store,s65,hsl,hvw,hrE,b1,l1,E.rows,AV.view]
  |e::e2::l,hrE,m2=>
   rw[hes]at hz hsl hvw
   have hl3:¬((E.rows (e::e2::l)).length:Int)=1:=by simp;omega
   generalize esV (e::e2::l)=kv at *
   generalize E.rows (e::e2::l)=rws at *
   simp[-a_load,-a_store,s65,hsl,hvw,hrE,hl3,b1,l1,AV.view]
 simp only[if_neg h1,if_neg h4,if_neg h7,if_neg h9]
 generalize esV s.es=kv at *
 by_cases h2:k=2
 ·subst h2
  by_cases q1:s.es.length=1
  ·simp[-a_load,-a_store,s65,hsl,hvw,hrE,q1,b1,l1,AV.view]
  ·simp[-a_load,-a_store,s65,hsl,hvw,hrE,m1,q1,b1,l1,AV.view]
 by_cases h3:k=3
 ·subst h3
  by_cases q1:s.es.length=1
  ·simp[-a_load,-a_store,s65,hsl,hvw,hrE,q1,b1,l1,AV.view]
  ·simp[-a_load,-a_store,s65,hsl,hvw,hrE,m1,q1,b1,l1,AV.view]
 by_cases h5:k=5
 ·subst h5
  by_cases q1:s.es.length=1
  ·simp[-a_load,-a_store,s65,hsl,hvw,hrE,q1,b1,l1,AV.view]
  ·simp[-a_load,-a_store,s65,hsl,hvw,hrE,m1,q1,b1,l1,AV.view]
 by_cases h6:k=6
 ·subst h6
  by_cases q1:s.es.length=1
  ·simp[-a_load,-a_store,s65,hsl,hvw,hrE,q1,b1,l1,AV.view]
  ·simp[-a_load,-a_store,s65,hsl,hvw,hrE,m1,q1,b1,l1,AV.view]
 by_cases h8:k=8
 ·subst h8
  by_cases q1:s.es.length=1
  ·simp[-a_load,-a_store,s65,hsl,hvw,hrE,q1,b1,l1,AV.view]
  ·simp[-a_load,-a_store,s65,hsl,hvw,hrE,m1,q1,b1,l1,AV.view]
 simp[-a_load,-a_store,s65,hsl,b1,l1,h1,h2,h3,h4,h5,h6,h7,h8,h9,AV.view]
end R9
namespace R9
open Ax Go Code9z V7 Par Chk K9
variable {pre:Store}
abbrev xRow (k n:Int)(nm on:List UInt8)(od:Int)(kv:AV)(a:Int)(t:T3)(z:Int):List AV:=[.int .i64 k,.int .i64 n,.str nm,.str on,.int .i64 od,kv,.int .i64 a,.int .i64 t.b,.int .i64 t.r,.int .i64 t.d,.int .i64 z]
theorem x_load {wl lim n k:Nat}{agg:Bool}{o:AObj}{r0 K:Store}{cs:List AV}{bx:Boxes}:act0 wl lim (.load agg n false) [.val (.ptr (pre.length+(r0.length+1)) 0 0 k)] (pre++o::(r0++.rows 0 11 [cs]::K)) bx =
  optE (pre++o::(r0++.rows 0 11 [cs]::K)) bx ((cut cs k n).bind fun cs=>oneOrAgg agg (AV.viewL cs)):=by
 rw[a_load];simp[readP]
theorem x_store {lim n k:Nat}{o:AObj}{r0 K:Store}{cs:List AV}{v:AV}{bx:Boxes}(h1:v.cells.length=n)(h2:AV.allCells v.cells=true)(h3:k+v.cells.length<=cs.length)(h4:AV.allPure v.cells=true) :
  act0 0 lim (.store n) [.val (.ptr (pre.length+(r0.length+1)) 0 0 k),.val v] (pre++o::(r0++.rows 0 11 [cs]::K)) bx=some (.none,pre++o::(r0++.rows 0 11 [paste cs k v.cells]::K),bx):=by
 rw[a_store,if_pos ⟨h1,h2⟩]
 simp[writeP,mayWrite,h3,h4]
theorem k_load {wl lim n j k v:Nat}{agg:Bool}{o X:AObj}{r0 K:Store}{rows:List (List AV)}{bx:Boxes}:act0 wl lim (.load agg n false) [.val (.ptr (pre.length+(r0.length+1+1)) v j k)] (pre++o::(r0++X::.rows v 11 rows::K)) bx =
  optE (pre++o::(r0++X::.rows v 11 rows::K)) bx ((match rows[j]? with|some cs=>cut cs k n|none=>none).bind fun cs=>oneOrAgg agg (AV.viewL cs)):=by
 rw[a_load];cases h:rows[j]?<;>simp[readP,h]
def sgR (k:Int):T3:=if k=12\/k=14\/k=15\/k=16\/k=17\/k=18 then tI else tB
def sgB (k:Int)(a b:T3):Bool:=if k=12\/k=14\/k=15\/k=16\/k=17\/k=18\/k=19\/k=20 then decide (a=tI)&&decide (b=tI) else if k=21\/k=22 then decide (a=b) else decide (a=tB)&&decide (b=tB)
theorem signs1_ok (lim:Nat)(o:AObj)(r0:Store)(k n:Int)(nm on:List UInt8)(od a z:Int)(t:T3)(y:E)(hk:k=12\/k=13) :
  (orcL S).call 0 lim 79 [.ptr pre.length 0 0 0,.ptr (pre.length+(r0.length+1)) 0 0 0] (pre++o::(r0++[.rows 0 11 [xRow k n nm on od (.mu (pre.length+(r0.length+1+1)) 0) a t z],.rows 0 11 [y.row]])) =
  some (.bool (sgB k y.ty y.ty),pre++o::(r0++[.rows 0 11 [xRow k n nm on od (.mu (pre.length+(r0.length+1+1)) 0) a (sgR k) z],.rows 0 11 [y.row]])):=by
 have eI:=fun wl lim st=>tint_ok wl lim st
 have eT:=fun wl lim st=>tbool_ok wl lim st
 rw[E.row_eq]
 refine call_run (sf:=s79) rfl rfl rfl ?_
 unfold sgB sgR
 rcases hk with h|h<;>subst h
 ·by_cases q:y.ty=tI
  ·simp[-a_load,-a_store,s79,x_load,x_store,k_load,eI,q,W_draw0,noBoxes,paste,AV.view]
  ·simp[-a_load,-a_store,s79,x_load,x_store,k_load,eI,K9.dI,q,W_draw0,noBoxes,paste,AV.view]
 ·by_cases q:y.ty=tB
  ·simp[-a_load,-a_store,s79,x_load,x_store,k_load,eT,q,W_draw0,noBoxes,paste,AV.view]
  ·simp[-a_load,-a_store,s79,x_load,x_store,k_load,eT,dB,q,W_draw0,noBoxes,paste,AV.view]
theorem signs2_ok (lim:Nat)(o:AObj)(r0:Store)(k n:Int)(nm on:List UInt8)(od a z:Int)(t:T3)(x y:E)(hk:14<=k) :
  (orcL S).call 0 lim 79 [.ptr pre.length 0 0 0,.ptr (pre.length+(r0.length+1)) 0 0 0] (pre++o::(r0++[.rows 0 11 [xRow k n nm on od (.mu (pre.length+(r0.length+1+1)) 1) a t z],.rows 1 11 [x.row,y.row]])) =
  some (.bool (sgB k x.ty y.ty),pre++o::(r0++[.rows 0 11 [xRow k n nm on od (.mu (pre.length+(r0.length+1+1)) 1) a (sgR k) z],.rows 1 11 [x.row,y.row]])):=by
 have eI:=fun wl lim st=>tint_ok wl lim st
 have eT:=fun wl lim st=>tbool_ok wl lim st
 have h12:k≠12:=by omega
 rw[E.row_eq x,E.row_eq y]
 refine call_run (sf:=s79) rfl rfl rfl ?_
 unfold sgB sgR
 by_cases h14:k=14
 ·subst h14
  by_cases q:x.ty=tI
  ·simp[-a_load,-a_store,s79,x_load,x_store,k_load,eI,K9.dI,q,W_draw0,noBoxes,paste,AV.view]
  ·simp[-a_load,-a_store,s79,x_load,x_store,k_load,eI,K9.dI,q,W_draw0,noBoxes,paste,AV.view]
 by_cases h15:k=15
 ·subst h15
  by_cases q:x.ty=tI
  ·simp[-a_load,-a_store,s79,x_load,x_store,k_load,eI,K9.dI,q,W_draw0,noBoxes,paste,AV.view]
  ·simp[-a_load,-a_store,s79,x_load,x_store,k_load,eI,K9.dI,q,W_draw0,noBoxes,paste,AV.view]
 by_cases h16:k=16
 ·subst h16
  by_cases q:x.ty=tI
  ·simp[-a_load,-a_store,s79,x_load,x_store,k_load,eI,K9.dI,q,W_draw0,noBoxes,paste,AV.view]
  ·simp[-a_load,-a_store,s79,x_load,x_store,k_load,eI,K9.dI,q,W_draw0,noBoxes,paste,AV.view]
 by_cases h17:k=17
 ·subst h17
  by_cases q:x.ty=tI
  ·simp[-a_load,-a_store,s79,x_load,x_store,k_load,eI,K9.dI,q,W_draw0,noBoxes,paste,AV.view]
  ·simp[-a_load,-a_store,s79,x_load,x_store,k_load,eI,K9.dI,q,W_draw0,noBoxes,paste,AV.view]
 by_cases h18:k=18
 ·subst h18
  by_cases q:x.ty=tI
  ·simp[-a_load,-a_store,s79,x_load,x_store,k_load,eI,K9.dI,q,W_draw0,noBoxes,paste,AV.view]
  ·simp[-a_load,-a_store,s79,x_load,x_store,k_load,eI,K9.dI,q,W_draw0,noBoxes,paste,AV.view]
 by_cases h19:k=19
 ·subst h19
  by_cases q:x.ty=tI
  ·simp[-a_load,-a_store,s79,x_load,x_store,k_load,eI,eT,K9.dI,q,W_draw0,noBoxes,paste,AV.view]
  ·simp[-a_load,-a_store,s79,x_load,x_store,k_load,eI,eT,K9.dI,q,W_draw0,noBoxes,paste,AV.view]
 by_cases h20:k=20
 ·subst h20
  by_cases q:x.ty=tI
  ·simp[-a_load,-a_store,s79,x_load,x_store,k_load,eI,eT,K9.dI,q,W_draw0,noBoxes,paste,AV.view]
  ·simp[-a_load,-a_store,s79,x_load,x_store,k_load,eI,eT,K9.dI,q,W_draw0,noBoxes,paste,AV.view]
 by_cases h21:k=21
 ·subst h21
  simp[-a_load,-a_store,s79,x_load,x_store,k_load,eT,dU,paste,AV.view]
 by_cases h22:k=22
 ·subst h22
  simp[-a_load,-a_store,s79,x_load,x_store,k_load,eT,dU,paste,AV.view]
 by_cases q:x.ty=tB
 ·simp[-a_load,-a_store,s79,x_load,x_store,k_load,eT,h12,h14,h15,h16,h17,h18,h19,h20,h21,h22,dB,q,W_draw0,noBoxes,paste,AV.view]
 ·simp[-a_load,-a_store,s79,x_load,x_store,k_load,eT,h12,h14,h15,h16,h17,h18,h19,h20,h21,h22,dB,q,W_draw0,noBoxes,paste,AV.view]
theorem signs_typ {H:Hd}{V:List Vd}{k:Int}{nm on:List UInt8}{od:Int}{ks:List E}(hk:12<=k):typE H V k nm on od ks=okT (sgB k (ty1 ks) (if k=12\/k=13 then ty1 ks else ty2 ks)) (sgR k):=by
 unfold typE sgB sgR
 rw[if_neg (by omega),if_neg (by omega),if_neg (by omega),if_neg (by omega),if_neg (by omega),if_neg (by omega),if_neg (by omega),if_neg (by omega),if_neg (by omega),if_neg (by omega)]
 by_cases h12:k=12
 ·subst h12;simp
 by_cases h13:k=13
 ·subst h13;simp
 unfold twoT
 rw[if_neg h12,if_neg h13]
 have g:(if k=12\/k=13 then ty1 ks else ty2 ks)=ty2 ks:=if_neg (by omega)
 rw[g]
 by_cases c1:k=14\/k=15\/k=16\/k=17\/k=18
 ·rcases c1 with h|h|h|h|h<;>subst h<;>simp
 rw[if_neg c1]
 by_cases c2:k=19\/k=20
 ·rcases c2 with h|h<;>subst h<;>simp
 rw[if_neg c2,if_neg (show ¬(k=12\/k=14\/k=15\/k=16\/k=17\/k=18\/k=19\/k=20) by omega),if_neg (show ¬(k=12\/k=14\/k=15\/k=16\/k=17\/k=18) by omega)]
 split<;>rfl
end R9
namespace R9
open Ax Go Code9z V7 Par Chk K9
variable {pre:Store}
def TolX (pre:Store)(o:AObj)(r0 K:Store)(q:Option (T3×Int))(row:T3->Int->List AV)(v:AV)(st:Store):Prop:=∃b Y,v=.bool b/\st=pre++o::(r0++Y::K)/\match q with
 |none=>b=false
 |some (u,z)=>b=true/\Y=.rows 0 11 [row u z]
theorem tolX_no {o:AObj}{r0 K:Store}{row:T3->Int->List AV}{Y:AObj}:TolX pre o r0 K none row (.bool false) (pre++o::(r0++Y::K)):=⟨false,Y,rfl,rfl,rfl⟩
theorem tolX_yes {o:AObj}{r0 K:Store}{row:T3->Int->List AV}{u:T3}{z:Int}:TolX pre o r0 K (some (u,z)) row (.bool true) (pre++o::(r0++.rows 0 11 [row u z]::K)):=⟨true,_,rfl,rfl,rfl,rfl⟩
theorem tolX_ok {o:AObj}{r0 K:Store}{row:T3->Int->List AV}{u:T3}{b:Bool}:TolX pre o r0 K (okT b u) row (.bool b) (pre++o::(r0++.rows 0 11 [row u 0]::K)):=by
 cases b
 ·exact tolX_no
 ·exact tolX_yes
theorem call1_ok (lim:Nat)(c:CK)(r0:Store)(e:E)(k n:Int)(nm on:List UInt8)(od a z:Int)(t:T3)(v:Nat)(ys:List E)(hs:Small c)(hn:ys.length<1000000000) :
  ∃v' st',(orcL S).call 0 lim 92 [.ptr pre.length 0 0 0,.agg e.row,.ptr (pre.length+(r0.length+1)) 0 0 0] (pre++c.obj::(r0++[.rows 0 11 [xRow k n nm on od (.mu (pre.length+(r0.length+1+1)) v) a t z],.rows v 11 (E.rows ys)]))=some (v',st')/\
   TolX pre c.obj r0 [.rows v 11 (E.rows ys)] (callT c.H e.nm ys) (xRow k n e.nm on od (.mu (pre.length+(r0.length+1+1)) v) a) v' st':=by
 have hS:=hs.S
 have hzS:isSz 6 (lstV 6 (c.H.sigs.map Sg.row))=true:=isSz_lst (by simp[fits,Sg.row])
 have hsS:isSl (lstV 6 (c.H.sigs.map Sg.row))=true:=isSl_lstV
 have hrS:rowsL (lstV 6 (c.H.sigs.map Sg.row))=c.H.sigs.map Sg.row:=rowsL_lstV
 have esi:=fun wl lim r bx=>c_si (pre:=pre) (wl:=wl) (lim:=lim) (c:=c) (r:=r) (bx:=bx)
 have hkv:isSl (esV e.kids)=true:=isSl_esV
 have hkw:(esV e.kids).view=esV e.kids:=view_esV
 rw[E.row_eq e]
 generalize esV e.kids=kv at *
 generalize lstV 6 (c.H.sigs.map Sg.row)=SV at *
 generalize c.obj=o at *
 refine call_ex (sf:=s92) rfl rfl rfl ?_
 simp[-a_load,-a_store,s92,x_store,hkv,paste]
 refine W_loopI s92_l1.eq_1 (fun q:Nat×List AV=>⟨[(0,.val (.ptr pre.length 0 0 0)),(2,.val (.ptr (pre.length+(r0.length+1)) 0 0 0)),(4,.fp 0 0),(7,.val (.int .i64 q.1))],[[.int .i64 e.k,.int .i64 e.n,.str e.nm,.str e.on,.int .i64 e.od,kv,.int .i64 e.a,.int .i64 e.ty.b,.int .i64 e.ty.r,.int .i64 e.ty.d,.int .i64 e.ref],q.2],
   pre++o::(r0++[.rows 0 11 [xRow k n e.nm on od (.mu (pre.length+(r0.length+1+1)) v) a t z],.rows v 11 (E.rows ys)])⟩)
  (fun q=>q.1<=c.H.sigs.length/\lookS e.nm 0 c.H.sigs=lookS e.nm q.1 (c.H.sigs.drop q.1)) (fun q=>c.H.sigs.length-q.1) (0,[]) (by simp) ⟨by simp,by simp⟩ ?_
 rintro⟨i,b1⟩ ⟨hi,hp⟩ ih
 simp only at hi hp ih
 by_cases hlt:i<c.H.sigs.length
 ·have hw:IntKind.i64.wrap ((i:Int)+1)=((i+1:Nat):Int):=by rw[wrap64]<;>omega
  rw[sig_drop hlt]at hp
  have gS:∀h:i<(c.H.sigs.map Sg.row).length,(c.H.sigs.map Sg.row)[i]=[.str c.H.sigs[i].nm,fdsV c.H.sigs[i].ps,.bool c.H.sigs[i].has,.int .i64 c.H.sigs[i].res.b,.int .i64 c.H.sigs[i].res.r,.int .i64 c.H.sigs[i].res.d]:=fun h=>by simp[Sg.row]
  have hlt':i<(c.H.sigs.map Sg.row).length:=by simpa using hlt
  have gS':=gS hlt'
  clear gS
  have hnp:=hs.P _ (List.getElem_mem hlt)
  have hzp:isSz 4 (fdsV c.H.sigs[i].ps)=true:=isSz_fdsV
  have hsp:isSl (fdsV c.H.sigs[i].ps)=true:=isSl_fdsV
  have hrp:rowsL (fdsV c.H.sigs[i].ps)=c.H.sigs[i].ps.map Vd.row:=rows_fdsV
  have hvp:(fdsV c.H.sigs[i].ps).view=fdsV c.H.sigs[i].ps:=view_fdsV
  have ih':=fun b1=>ih (i+1,b1)
  simp only at ih'
  generalize hRS:c.H.sigs.map Sg.row=RS at *
  have hgg:c.H.sigs[i]?=some c.H.sigs[i]:=List.getElem?_eq_getElem hlt
  generalize c.H.sigs[i]=g at *
  by_cases h:g.nm=e.nm
  ·rw[if_pos h]at hp
   have hcal:callT c.H e.nm ys=if sameTs g.ps ys then some (g.res,(i:Int)) else none:=by unfold callT;rw[hp]
   rw[hcal]
   by_cases hl:g.ps.length=ys.length
   ·generalize fdsV g.ps=PV at *
    simp[-a_load,-a_store,x_load,a_loadE,esi,hsS,hzS,hrS,hlt',gS',hsp,hrp,hvp,h,hl,W_drawB,boxOk,paste]
    clear ih ih'
    refine W_loopI s92_l0.eq_1 (fun j:Nat=>⟨[(2,.val (.ptr (pre.length+(r0.length+1)) 0 0 0)),(7,.val (.int .i64 i)),(8,.fp 1 0),(9,.val (.int .i64 j))],[[.int .i64 e.k,.int .i64 e.n,.str e.nm,.str e.on,.int .i64 e.od,kv,.int .i64 e.a,.int .i64 e.ty.b,.int .i64 e.ty.r,.int .i64 e.ty.d,.int .i64 e.ref],
      [.str e.nm,PV,.bool g.has,.int .i64 g.res.b,.int .i64 g.res.r,.int .i64 g.res.d]],
      pre++o::(r0++[.rows 0 11 [xRow k n e.nm on od (.mu (pre.length+(r0.length+1+1)) v) a t z],.rows v 11 (E.rows ys)])⟩)
     (fun j=>j<=ys.length/\sameTs g.ps ys=sameTs (g.ps.drop j) (ys.drop j)) (fun j=>ys.length-j) 0 (by simp) ⟨by simp,by simp⟩ ?_
    rintro j ⟨hj,hq⟩ ih
    by_cases hjl:j<ys.length
    ·have hwj:IntKind.i64.wrap ((j:Int)+1)=((j+1:Nat):Int):=by rw[wrap64]<;>omega
     have hjp:j<g.ps.length:=by omega
     rw[same_drop hjp hjl]at hq
     have gE:=E_get hjl
     have gV:∀h:j<(g.ps.map Vd.row).length,(g.ps.map Vd.row)[j]=[.str g.ps[j].nm,.int .i64 g.ps[j].ty.b,.int .i64 g.ps[j].ty.r,.int .i64 g.ps[j].ty.d]:=fun h=>by simp[Vd.row]
     have hjr:j<(g.ps.map Vd.row).length:=by simpa using hjp
     have gV':=gV hjr
     clear gV
     have gV2:(g.ps.map Vd.row)[j]?=some [.str g.ps[j].nm,.int .i64 g.ps[j].ty.b,.int .i64 g.ps[j].ty.r,.int .i64 g.ps[j].ty.d]:=by simp[hjp,Vd.row]
     rw[E.row_eq]at gE
     have hyl:j<(E.rows ys).length:=by simpa using hjl
     have gE':=E_get' hjl hyl
     rw[E.row_eq]at gE'
     generalize hRY:E.rows ys=RY at *
     generalize hRP:g.ps.map Vd.row=RP at *
     by_cases qq:ys[j].ty=g.ps[j].ty
     ·have dq:(decide (ys[j].ty.b=g.ps[j].ty.b)&&(decide (ys[j].ty.r=g.ps[j].ty.r)&&decide (ys[j].ty.d=g.ps[j].ty.d)))=true:=by rw[dU];exact decide_eq_true qq
      rw[decide_eq_true qq,Bool.true_and]at hq
      generalize ys[j]=y at *
      generalize g.ps[j]=f at *
      simp[-a_load,-a_store,x_load,k_load,a_loadE,hyl,gE',gV',hzp,hrp,hjr,qq,hwj,W_drawB,boxOk]
      exact ih (j+1) ⟨by omega,hq⟩ (by omega)
     ·rw[decide_eq_false qq,Bool.false_and]at hq
      rw[hq]
      generalize ys[j]=y at *
      generalize g.ps[j]=f at *
      simp[-a_load,-a_store,x_load,k_load,a_loadE,hyl,gE',gV',hzp,hrp,hjr,dU,qq,W_drawB,boxOk]
      exact tolX_no
    ·have hkl:j=ys.length:=by omega
     have:sameTs g.ps ys=true:=by rw[hq,hkl,List.drop_length,<-hl,List.drop_length];rfl
     rw[this]
     simp[-a_load,-a_store,x_load,x_store,hkl,paste]
     exact tolX_yes
   ·have hno:sameTs g.ps ys=false:=by
     cases hq:sameTs g.ps ys with
     |false=>rfl
     |true=>exact absurd (same_len hq) hl
    rw[hno]
    generalize fdsV g.ps=PV at *
    simp[-a_load,-a_store,x_load,a_loadE,esi,hsS,hzS,hrS,hlt',gS',hsp,hrp,hvp,h,hl,W_drawB,boxOk,paste]
    exact tolX_no
  ·rw[if_neg h]at hp
   generalize fdsV g.ps=PV at *
   simp[-a_load,-a_store,a_loadE,esi,hsS,hzS,hrS,hlt',gS',hsp,hvp,h,hw,paste]
   exact ih' _ ⟨by omega,hp⟩ (by omega)
 ·have hkl:i=c.H.sigs.length:=by omega
  have hno:lookS e.nm 0 c.H.sigs=none:=by rw[hp,hkl,List.drop_length];rfl
  have hcal:callT c.H e.nm ys=none:=by unfold callT;rw[hno]
  rw[hcal]
  simp[-a_load,-a_store,esi,hsS,hrS,hlt]
  exact tolX_no
end R9
namespace R9
open Ax Go Code9z V7 Par Chk K9
variable {pre:Store}
theorem call0_ok (lim:Nat)(c:CK)(r0:Store)(e:E)(k n:Int)(nm on:List UInt8)(od a z:Int)(t:T3)(hs:Small c) :
  ∃v' st',(orcL S).call 0 lim 92 [.ptr pre.length 0 0 0,.agg e.row,.ptr (pre.length+(r0.length+1)) 0 0 0] (pre++c.obj::(r0++[.rows 0 11 [xRow k n nm on od .nilSl a t z]]))=some (v',st')/\
   TolX pre c.obj r0 [] (callT c.H e.nm []) (xRow k n e.nm on od .nilSl a) v' st':=by
 have hS:=hs.S
 have hzS:isSz 6 (lstV 6 (c.H.sigs.map Sg.row))=true:=isSz_lst (by simp[fits,Sg.row])
 have hsS:isSl (lstV 6 (c.H.sigs.map Sg.row))=true:=isSl_lstV
 have hrS:rowsL (lstV 6 (c.H.sigs.map Sg.row))=c.H.sigs.map Sg.row:=rowsL_lstV
 have esi:=fun wl lim r bx=>c_si (pre:=pre) (wl:=wl) (lim:=lim) (c:=c) (r:=r) (bx:=bx)
 have hkv:isSl (esV e.kids)=true:=isSl_esV
 have hkw:(esV e.kids).view=esV e.kids:=view_esV
 rw[E.row_eq e]
 generalize esV e.kids=kv at *
 generalize lstV 6 (c.H.sigs.map Sg.row)=SV at *
 generalize c.obj=o at *
 refine call_ex (sf:=s92) rfl rfl rfl ?_
 simp[-a_load,-a_store,s92,x_store,hkv,paste]
 refine W_loopI s92_l1.eq_1 (fun q:Nat×List AV=>⟨[(0,.val (.ptr pre.length 0 0 0)),(2,.val (.ptr (pre.length+(r0.length+1)) 0 0 0)),(4,.fp 0 0),(7,.val (.int .i64 q.1))],[[.int .i64 e.k,.int .i64 e.n,.str e.nm,.str e.on,.int .i64 e.od,kv,.int .i64 e.a,.int .i64 e.ty.b,.int .i64 e.ty.r,.int .i64 e.ty.d,.int .i64 e.ref],q.2],
   pre++o::(r0++[.rows 0 11 [xRow k n e.nm on od .nilSl a t z]])⟩)
  (fun q=>q.1<=c.H.sigs.length/\lookS e.nm 0 c.H.sigs=lookS e.nm q.1 (c.H.sigs.drop q.1)) (fun q=>c.H.sigs.length-q.1) (0,[]) (by simp) ⟨by simp,by simp⟩ ?_
 rintro⟨i,b1⟩ ⟨hi,hp⟩ ih
 simp only at hi hp ih
 by_cases hlt:i<c.H.sigs.length
 ·have hw:IntKind.i64.wrap ((i:Int)+1)=((i+1:Nat):Int):=by rw[wrap64]<;>omega
  rw[sig_drop hlt]at hp
  have gS:∀h:i<(c.H.sigs.map Sg.row).length,(c.H.sigs.map Sg.row)[i]=[.str c.H.sigs[i].nm,fdsV c.H.sigs[i].ps,.bool c.H.sigs[i].has,.int .i64 c.H.sigs[i].res.b,.int .i64 c.H.sigs[i].res.r,.int .i64 c.H.sigs[i].res.d]:=fun h=>by simp[Sg.row]
  have hlt':i<(c.H.sigs.map Sg.row).length:=by simpa using hlt
  have gS':=gS hlt'
  clear gS
  have hnp:=hs.P _ (List.getElem_mem hlt)
  have hzp:isSz 4 (fdsV c.H.sigs[i].ps)=true:=isSz_fdsV
  have hsp:isSl (fdsV c.H.sigs[i].ps)=true:=isSl_fdsV
  have hrp:rowsL (fdsV c.H.sigs[i].ps)=c.H.sigs[i].ps.map Vd.row:=rows_fdsV
  have hvp:(fdsV c.H.sigs[i].ps).view=fdsV c.H.sigs[i].ps:=view_fdsV
  have ih':=fun b1=>ih (i+1,b1)
  simp only at ih'
  generalize hRS:c.H.sigs.map Sg.row=RS at *
  have hgg:c.H.sigs[i]?=some c.H.sigs[i]:=List.getElem?_eq_getElem hlt
  generalize c.H.sigs[i]=g at *
  by_cases h:g.nm=e.nm
  ·rw[if_pos h]at hp
   have hcal:callT c.H e.nm []=if sameTs g.ps [] then some (g.res,(i:Int)) else none:=by unfold callT;rw[hp]
   rw[hcal]
   by_cases hl:g.ps.length=0
   ·generalize fdsV g.ps=PV at *
    simp[-a_load,-a_store,x_load,a_loadE,esi,hsS,hzS,hrS,hlt',gS',hsp,hrp,hvp,h,hl,W_drawB,boxOk,paste]
    clear ih ih'
    refine W_loopI s92_l0.eq_1 (fun j:Nat=>⟨[(2,.val (.ptr (pre.length+(r0.length+1)) 0 0 0)),(7,.val (.int .i64 i)),(8,.fp 1 0),(9,.val (.int .i64 j))],[[.int .i64 e.k,.int .i64 e.n,.str e.nm,.str e.on,.int .i64 e.od,kv,.int .i64 e.a,.int .i64 e.ty.b,.int .i64 e.ty.r,.int .i64 e.ty.d,.int .i64 e.ref],
      [.str e.nm,PV,.bool g.has,.int .i64 g.res.b,.int .i64 g.res.r,.int .i64 g.res.d]],
      pre++o::(r0++[.rows 0 11 [xRow k n e.nm on od .nilSl a t z]])⟩)
     (fun j=>j<=0/\sameTs g.ps []=sameTs (g.ps.drop j) []) (fun j=>0-j) 0 (by simp) ⟨by simp,by simp⟩ ?_
    rintro j ⟨hj,hq⟩ ih
    have hkl:j=0:=by omega
    have:sameTs g.ps []=true:=by rw[List.length_eq_zero_iff.1 hl];rfl
    rw[this]
    simp[-a_load,-a_store,x_load,x_store,hkl,paste]
    exact tolX_yes
   ·have hno:sameTs g.ps []=false:=by
     cases hq:sameTs g.ps [] with
     |false=>rfl
     |true=>exact absurd (same_len hq) hl
    rw[hno]
    generalize fdsV g.ps=PV at *
    simp[-a_load,-a_store,x_load,a_loadE,esi,hsS,hzS,hrS,hlt',gS',hsp,hrp,hvp,h,hl,W_drawB,boxOk,paste]
    exact tolX_no
  ·rw[if_neg h]at hp
   generalize fdsV g.ps=PV at *
   simp[-a_load,-a_store,a_loadE,esi,hsS,hzS,hrS,hlt',gS',hsp,hvp,h,hw,paste]
   exact ih' _ ⟨by omega,hp⟩ (by omega)
 ·have hkl:i=c.H.sigs.length:=by omega
  have hno:lookS e.nm 0 c.H.sigs=none:=by rw[hp,hkl,List.drop_length];rfl
  have hcal:callT c.H e.nm []=none:=by unfold callT;rw[hno]
  rw[hcal]
  simp[-a_load,-a_store,esi,hsS,hrS,hlt]
  exact tolX_no
theorem isSts_sts {l:List (List UInt8)}:isSts (lstV 1 (sts l))=true:=by
 unfold isSts isRows
 rw[N7.no_lstV,N7.isSz_lstV (by simp[fits,sts]),rowsL_lstV]
 simp[sts,stRow]
theorem dSts_sts {l:List (List UInt8)}:dSts (lstV 1 (sts l))=l:=by
 simp only[dSts,rowsL_lstV,sts,List.map_map]
 conv=>rhs;rw[<-List.map_id l]
 exact List.map_congr_left fun _ _=>rfl
theorem rtyp_ok (wl lim:Nat)(l:List (List UInt8))(s:List UInt8)(d:Int)(st:Store)(hn:l.length<1000000000) :
  (orcL S).call wl lim 44 [lstV 1 (sts l),.agg [.str s,.int .i64 d]] st=some (tyV (typeT l s d),st):=by
 rw[U7.rtype_ok wl lim (lstV 1 (sts l)) s d st isSts_sts (by rw[dSts_sts];exact hn),dSts_sts]
 rfl
theorem rref_ok (wl lim:Nat)(t:T3)(st:Store):(orcL S).call wl lim 91 [.agg [.int .i64 t.b,.int .i64 t.r,.int .i64 t.d]] st=some (.bool (refT t),st):=U7.rref_ok wl lim t st
def kvI (i:Nat)(ys:List E):AV:=if ys.isEmpty then .nilSl else .mu i (ys.length-1)
def kK (ys:List E):Store:=if ys.isEmpty then [] else [.rows (ys.length-1) 11 (E.rows ys)]
theorem callK_ok (lim:Nat)(c:CK)(r0:Store)(e:E)(k n:Int)(nm on:List UInt8)(od a z:Int)(t:T3)(ys:List E)(hs:Small c)(hn:ys.length<1000000000) :
  ∃v' st',(orcL S).call 0 lim 92 [.ptr pre.length 0 0 0,.agg e.row,.ptr (pre.length+(r0.length+1)) 0 0 0] (pre++c.obj::(r0++.rows 0 11 [xRow k n nm on od (kvI (pre.length+(r0.length+1+1)) ys) a t z]::kK ys))=some (v',st')/\
   TolX pre c.obj r0 (kK ys) (callT c.H e.nm ys) (xRow k n e.nm on od (kvI (pre.length+(r0.length+1+1)) ys) a) v' st':=by
 cases ys with
 |nil=>exact call0_ok (pre:=pre) lim c r0 e k n nm on od a z t hs
 |cons y l=>exact call1_ok (pre:=pre) lim c r0 e k n nm on od a z t ((y::l).length-1) (y::l) hs hn
end R9
namespace R9
open Ax Go Code9z V7 Par Chk K9
variable {pre:Store}
theorem plain_ok (lim:Nat)(c:CK)(r0:Store)(e:E)(ys:List E)(hs:Small c)(hn:ys.length<1000000000)(hk:kindsT e.k e.n ys.length=true)(h12:e.k<12)(hRS:c.H.rs.length=c.H.shapes.length)(hw:∀x∈ys,WT c.H.rs.length x.ty) :
  ∃v' st',(orcL S).call 0 lim 80 [.ptr pre.length 0 0 0,.agg e.row,.ptr (pre.length+(r0.length+1)) 0 0 0] (pre++c.obj::(r0++.rows 0 11 [xRow e.k 0 [] [] 0 (kvI (pre.length+(r0.length+1+1)) ys) e.a T0 0]::kK ys))=some (v',st')/\
   TolX pre c.obj r0 (kK ys) (typE c.H c.V e.k e.nm e.on e.od ys) (xRow e.k (keptN e.k e.n) (keptNm e.k e.nm) (keptOn e.k e.on) (keptOd e.k e.od) (kvI (pre.length+(r0.length+1+1)) ys) e.a) v' st':=by
 have eI:=fun wl lim st=>tint_ok wl lim st
 have eT:=fun wl lim st=>tbool_ok wl lim st
 have eV:=fun lim r=>variable_ok (pre:=pre) lim c e.nm r hs
 have ety:=fun wl lim st=>rtyp_ok wl lim c.H.rs e.on e.od st hs.R
 have erf:=fun wl lim st=>rref_ok wl lim (typeT c.H.rs e.on e.od).1 st
 have ecl:=fun lim k n nm on od a z t=>callK_ok (pre:=pre) lim c r0 e k n nm on od a z t ys hs hn
 have erc:=fun wl lim r bx=>c_rc (pre:=pre) (wl:=wl) (lim:=lim) (c:=c) (r:=r) (bx:=bx)
 have esh:=fun wl lim r bx=>c_sh (pre:=pre) (wl:=wl) (lim:=lim) (c:=c) (r:=r) (bx:=bx)
 have hkv:isSl (esV e.kids)=true:=isSl_esV
 have hkw:(esV e.kids).view=esV e.kids:=view_esV
 have hwt:=type_wt c.H.rs e.on e.od
 rw[E.row_eq e]at *
 generalize esV e.kids=kv at *
 have nil:∀j,e.k=j->(j=1\/j=2\/j=3\/j=4\/j=8\/j=11)->ys=[]:=fun j hj h=>by
  rw[hj]at hk
  rcases h with h|h|h|h|h|h<;>subst h<;>simp[kindsT]at hk<;>first|exact hk|exact hk.1
 have one:∀j,e.k=j->(j=5\/j=9\/j=10)->∃x,ys=[x]:=fun j hj h=>by
  have hlen:ys.length=1:=by
   rw[hj]at hk
   rcases h with h|h|h<;>subst h<;>simpa [kindsT] using hk
  match ys,hlen with
  |[x],_=>exact⟨x,rfl⟩
 by_cases h1:e.k=1
 ·have hy:=nil 1 h1 (by simp)
  subst hy
  rw[h1]
  refine call_ex (sf:=s80) rfl rfl rfl ?_
  simp[-a_load,-a_store,s80,x_store,kvI,kK,eI,hkv,paste,AV.view]
  exact tolX_yes
 by_cases h2:e.k=2
 ·have hy:=nil 2 h2 (by simp)
  subst hy
  rw[h2]
  refine call_ex (sf:=s80) rfl rfl rfl ?_
  simp[-a_load,-a_store,s80,x_store,kvI,kK,eT,hkv,paste,AV.view]
  exact tolX_yes
 by_cases h11:e.k=11
 ·have hy:=nil 11 h11 (by simp)
  subst hy
  rw[h11]
  refine call_ex (sf:=s80) rfl rfl rfl ?_
  simp[-a_load,-a_store,s80,x_store,kvI,kK,eI,hkv,paste,AV.view]
  exact tolX_yes
 by_cases h3:e.k=3
 ·have hy:=nil 3 h3 (by simp)
  subst hy
  rw[h3]
  have htt:typE c.H c.V 3 e.nm e.on e.od []=okT ((typeT c.H.rs e.on e.od).2&&refT (typeT c.H.rs e.on e.od).1) (typeT c.H.rs e.on e.od).1:=rfl
  rw[htt]
  refine call_ex (sf:=s80) rfl rfl rfl ?_
  unfold tyV at ety
  generalize typeT c.H.rs e.on e.od=tt at *
  obtain⟨t,b⟩:=tt
  generalize c.obj=o at *
  cases b
  ·simp[-a_load,-a_store,s80,x_store,kvI,kK,erc,ety,hkv,paste,AV.view,W_drawB,boxOk]
   exact tolX_no
  ·cases hr:refT t with
   |false=>
    rw[hr]at erf
    simp[-a_load,-a_store,s80,x_store,kvI,kK,erc,ety,erf,hkv,paste,AV.view,W_drawB,boxOk]
    exact tolX_no
   |true=>
    rw[hr]at erf
    simp[-a_load,-a_store,s80,x_store,kvI,kK,erc,ety,erf,hkv,paste,AV.view,W_drawB,boxOk]
    exact tolX_yes
 by_cases h8:e.k=8
 ·have hy:=nil 8 h8 (by simp)
  subst hy
  rw[h8]
  have htt:typE c.H c.V 8 e.nm e.on e.od []=okT ((typeT c.H.rs e.on e.od).2&&decide ((typeT c.H.rs e.on e.od).1.b=3)&&decide ((typeT c.H.rs e.on e.od).1.d=0)) (typeT c.H.rs e.on e.od).1:=rfl
  rw[htt]
  refine call_ex (sf:=s80) rfl rfl rfl ?_
  unfold tyV at ety
  generalize typeT c.H.rs e.on e.od=tt at *
  obtain⟨t,b⟩:=tt
  generalize c.obj=o at *
  cases b
  ·simp[-a_load,-a_store,s80,x_store,kvI,kK,erc,ety,hkv,paste,AV.view,W_drawB,boxOk]
   exact tolX_no
  ·by_cases hd:t.d=0
   ·have hd':(t.d=0)=True:=eq_true hd
    by_cases hb:t.b=3
    ·have hr:refT t=true:=by unfold refT;simp[hb]
     rw[hr]at erf
     rw[decide_eq_true hb,decide_eq_true hd]
     simp[-a_load,-a_store,s80,x_store,kvI,kK,erc,ety,erf,hd',hkv,paste,AV.view,W_drawB,boxOk]
     exact tolX_yes
    ·have hr:refT t=false:=by unfold refT;simp[hb,hd]
     rw[hr]at erf
     rw[decide_eq_false hb]
     simp[-a_load,-a_store,s80,x_store,kvI,kK,erc,ety,erf,hkv,paste,AV.view,W_drawB,boxOk]
     exact tolX_no
   ·cases hr:refT t with
    |false=>
     rw[hr]at erf
     simp[-a_load,-a_store,s80,x_store,kvI,kK,erc,ety,erf,hd,hkv,paste,AV.view,W_drawB,boxOk]
     exact tolX_no
    |true=>
     rw[hr]at erf
     simp[-a_load,-a_store,s80,x_store,kvI,kK,erc,ety,erf,hd,hkv,paste,AV.view,W_drawB,boxOk]
     exact tolX_no
 by_cases h4:e.k=4
 ·have hy:=nil 4 h4 (by simp)
  subst hy
  rw[h4]
  have htt:typE c.H c.V 4 e.nm e.on e.od []=varT c.H c.V e.nm:=rfl
  rw[htt]
  refine call_ex (sf:=s80) rfl rfl rfl ?_
  generalize varT c.H c.V e.nm=vt at *
  generalize c.obj=o at *
  cases vt with
  |none=>
   simp[-a_load,-a_store,s80,x_store,kvI,kK,eV,varV,hkv,paste,AV.view]
   exact tolX_no
  |some x=>
   simp[-a_load,-a_store,s80,x_store,kvI,kK,eV,varV,hkv,paste,AV.view]
   exact tolX_yes
 by_cases h9:e.k=9
 ·obtain⟨y,rfl⟩:=one 9 h9 (by simp)
  rw[h9]
  have htt:typE c.H c.V 9 e.nm e.on e.od [y]=okT ((typeT c.H.rs e.on e.od).2&&decide ((typeT c.H.rs e.on e.od).1.d<3)&&decide (y.ty=tI)) ⟨(typeT c.H.rs e.on e.od).1.b,(typeT c.H.rs e.on e.od).1.r,(typeT c.H.rs e.on e.od).1.d+1⟩:=rfl
  rw[htt]
  refine call_ex (sf:=s80) rfl rfl rfl ?_
  have hwr:IntKind.i64.wrap ((typeT c.H.rs e.on e.od).1.d+1)=(typeT c.H.rs e.on e.od).1.d+1:=by
   have:=hwt.1;have:=hwt.2.1
   rw[wrap64]<;>omega
  unfold tyV at ety
  generalize typeT c.H.rs e.on e.od=tt at *
  obtain⟨t,b⟩:=tt
  generalize c.obj=o at *
  dsimp only
  cases b
  ·simp[-a_load,-a_store,s80,x_store,kvI,kK,E.rows,E.row_eq,erc,ety,hwr,hkv,paste,AV.view,W_draw0,W_drawB,boxOk,noBoxes]
   exact tolX_no
  ·by_cases q:t.d<3
   ·simp[-a_load,-a_store,s80,x_load,x_store,k_load,kvI,kK,E.rows,E.row_eq,erc,ety,eI,K9.dI,q,hwr,hkv,paste,AV.view,W_draw0,W_drawB,boxOk,noBoxes]
    exact tolX_ok
   ·simp[-a_load,-a_store,s80,x_store,kvI,kK,E.rows,E.row_eq,erc,ety,q,hwr,hkv,paste,AV.view,W_draw0,W_drawB,boxOk,noBoxes]
    exact tolX_no
 by_cases h10:e.k=10
 ·obtain⟨y,rfl⟩:=one 10 h10 (by simp)
  rw[h10]
  have htt:typE c.H c.V 10 e.nm e.on e.od [y]=okT (decide (0<y.ty.d)) tI:=rfl
  rw[htt]
  refine call_ex (sf:=s80) rfl rfl rfl ?_
  generalize c.obj=o at *
  simp[-a_load,-a_store,s80,x_load,x_store,k_load,kvI,kK,E.rows,E.row_eq,eI,hkv,paste,AV.view]
  exact tolX_ok
 by_cases h6:e.k=6
 ·obtain⟨x,y,rfl⟩:∃x y,ys=[x,y]:=by
   have hlen:ys.length=2:=by rw[h6]at hk;simpa [kindsT] using hk
   match ys,hlen with
   |[x,y],_=>exact⟨x,y,rfl⟩
  rw[h6]
  have htt:typE c.H c.V 6 e.nm e.on e.od [x,y]=okT (decide (0<x.ty.d)&&decide (y.ty=tI)) ⟨x.ty.b,x.ty.r,x.ty.d-1⟩:=rfl
  rw[htt]
  have hwr:IntKind.i64.wrap (x.ty.d-1)=x.ty.d-1:=by
   have wx:=hw x (by simp)
   have:=wx.1;have:=wx.2.1
   rw[wrap64]<;>omega
  refine call_ex (sf:=s80) rfl rfl rfl ?_
  generalize c.obj=o at *
  by_cases q:0<x.ty.d
  ·simp[-a_load,-a_store,s80,x_load,x_store,k_load,kvI,kK,E.rows,E.row_eq,eI,K9.dI,q,hwr,hkv,paste,AV.view,W_draw0,noBoxes]
   exact tolX_ok
  ·simp[-a_load,-a_store,s80,x_load,x_store,k_load,kvI,kK,E.rows,E.row_eq,q,hwr,hkv,paste,AV.view,W_draw0,noBoxes]
   exact tolX_no
 by_cases h5:e.k=5
 ·obtain⟨y,rfl⟩:=one 5 h5 (by simp)
  rw[h5]
  have htt:typE c.H c.V 5 e.nm e.on e.od [y]=fieldT c.H y.ty e.nm:=rfl
  rw[htt]
  refine call_ex (sf:=s80) rfl rfl rfl ?_
  have hzs:isSz 2 (lstV 2 (c.H.shapes.map shRow))=true:=isSz_lst (by simp[fits,shRow])
  have hss:isSl (lstV 2 (c.H.shapes.map shRow))=true:=isSl_lstV
  have hrs:rowsL (lstV 2 (c.H.shapes.map shRow))=c.H.shapes.map shRow:=rowsL_lstV
  generalize lstV 2 (c.H.shapes.map shRow)=SV at *
  generalize c.obj=o at *
  unfold fieldT
  by_cases hb:y.ty.b=3
  ·by_cases hd:y.ty.d=0
   ·rw[if_pos ⟨hb,hd⟩]
    have wy:=(hw y (by simp)).2.2 hb
    rw[hRS]at wy
    obtain⟨j,hj⟩:∃j:Nat,y.ty.r=j:=⟨y.ty.r.toNat,by omega⟩
    have hjl:j<c.H.shapes.length:=by omega
    have hg:c.H.shapes[j]?=some c.H.shapes[j]:=List.getElem?_eq_getElem hjl
    have hF:=hs.F _ (List.getElem_mem hjl)
    have hgm:∀h:j<(c.H.shapes.map shRow).length,(c.H.shapes.map shRow)[j]=[.str c.H.shapes[j].1,fdsV c.H.shapes[j].2]:=fun h=>by simp[shRow]
    have hjl':j<(c.H.shapes.map shRow).length:=by simpa using hjl
    have hgm':=hgm hjl'
    clear hgm
    generalize c.H.shapes[j]=sh at *
    generalize c.H.shapes.map shRow=RS at *
    rw[hj,Int.toNat_natCast,hg]
    simp only
    have hzp:isSz 4 (fdsV sh.2)=true:=isSz_fdsV
    have hsp:isSl (fdsV sh.2)=true:=isSl_fdsV
    have hrp:rowsL (fdsV sh.2)=sh.2.map Vd.row:=rows_fdsV
    have hvp:(fdsV sh.2).view=fdsV sh.2:=view_fdsV
    generalize fdsV sh.2=PV at *
    simp[-a_load,-a_store,s80,x_load,x_store,k_load,a_loadE,esh,hzs,hrs,hjl',hgm',hvp,kvI,kK,E.rows,E.row_eq,hb,hd,hj,hkv,paste,AV.view,W_draw0,noBoxes]
    refine W_loopI s80_l0.eq_1 (fun i:Nat=>⟨[(2,.val (.ptr (pre.length+(r0.length+1)) 0 0 0)),(4,.fp 0 0),(16,.val PV),(17,.val (.int .i64 i))],[[.int .i64 5,.int .i64 e.n,.str e.nm,.str e.on,.int .i64 e.od,kv,.int .i64 e.a,.int .i64 e.ty.b,.int .i64 e.ty.r,.int .i64 e.ty.d,.int .i64 e.ref],[],[],[],[],[.int .i64 3,.int .i64 j,.int .i64 0]],
      pre++o::(r0++[.rows 0 11 [xRow 5 0 e.nm [] 0 (.mu (pre.length+(r0.length+1+1)) 0) e.a T0 0],.rows 0 11 [[.int .i64 y.k,.int .i64 y.n,.str y.nm,.str y.on,.int .i64 y.od,esV y.kids,.int .i64 y.a,.int .i64 3,.int .i64 j,.int .i64 0,.int .i64 y.ref]]])⟩)
     (fun i=>i<=sh.2.length/\lookF e.nm 0 sh.2=lookF e.nm i (sh.2.drop i)) (fun i=>sh.2.length-i) 0 (by simp) ⟨by simp,by simp⟩ ?_
    rintro i ⟨hi,hp⟩ ih
    by_cases hil:i<sh.2.length
    ·have hwi:IntKind.i64.wrap ((i:Int)+1)=((i+1:Nat):Int):=by rw[wrap64]<;>omega
     rw[look_drop hil]at hp
     by_cases q:sh.2[i].nm=e.nm
     ·rw[if_pos q]at hp
      rw[hp]
      simp[-a_load,-a_store,x_store,a_loadE,hzp,hsp,hrp,hvp,hil,q,Vd.row,paste,AV.view,W_draw0,noBoxes]
      exact tolX_yes
     ·rw[if_neg q]at hp
      simp[-a_load,-a_store,a_loadE,hzp,hsp,hrp,hvp,hil,q,hwi,Vd.row,AV.view,W_draw0,noBoxes]
      exact ih (i+1) ⟨by omega,hp⟩ (by omega)
    ·have hkl:i=sh.2.length:=by omega
     have hno:lookF e.nm 0 sh.2=none:=by rw[hp,hkl,List.drop_length];rfl
     rw[hno]
     simp[-a_load,-a_store,hsp,hrp,hil]
     exact tolX_no
   ·rw[if_neg (fun h=>hd h.2)]
    simp[-a_load,-a_store,s80,x_load,x_store,k_load,kvI,kK,E.rows,E.row_eq,hb,hd,hkv,paste,AV.view]
    exact tolX_no
  ·rw[if_neg (fun h=>hb h.1)]
   simp[-a_load,-a_store,s80,x_load,x_store,k_load,kvI,kK,E.rows,E.row_eq,hb,hkv,paste,AV.view]
   exact tolX_no
 have h7:e.k=7:=by
  have:(0:Int)<e.k:=by
   apply Classical.byContradiction
   intro hc
   unfold kindsT at hk
   rw[if_neg (by omega),if_neg h2,if_neg (by omega),if_neg (by omega)]at hk
   simp[h6]at hk
   omega
  omega
 rw[h7]
 have htt:typE c.H c.V 7 e.nm e.on e.od ys=callT c.H e.nm ys:=rfl
 rw[htt]
 obtain⟨v',st',e1,e2⟩:=ecl ((pre++c.obj::(r0++.rows 0 11 [xRow 7 0 [] [] 0 (kvI (pre.length+(r0.length+1+1)) ys) e.a T0 0]::kK ys)).length) 7 0 [] [] 0 e.a 0 T0
 refine⟨v',st',?_,e2⟩
 obtain⟨b,Y,rfl,rfl,_⟩:=e2
 simp only[List.length_cons,List.length_append,h7]at e1
 have hkc:(kvI (pre.length+(r0.length+1+1)) ys).isCell=true:=by unfold kvI;split<;>rfl
 generalize c.obj=o at *
 generalize kvI (pre.length+(r0.length+1+1)) ys=kw at *
 generalize kK ys=K at *
 refine call_run (sf:=s80) rfl rfl rfl ?_
 simp[-a_load,-a_store,s80,e1,hkv,hkw,AV.view]
 done
end R9
namespace R9
open Ax Go Code9z V7 Par Chk K9
variable {pre:Store}
def OkX (pre:Store)(c:CK)(e:E):Prop:=match ckE c.H c.V e with
 |.ok y=>∀lim r,(orcL S).call 0 lim 67 [.ptr pre.length 0 0 0,.agg e.row] (pre++c.obj::r)=some (.agg y.row,pre++c.obj::r)
 |.error a=>∀lim r,(orcL S).call 0 lim 67 [.ptr pre.length 0 0 0,.agg e.row] (pre++c.obj::r)=some (.agg E0.row,pre++(c.fail a).obj::r)
def OkW (pre:Store)(c:CK)(e:E):Prop:=match valE c e with
 |.ok y=>∀lim r,(orcL S).call 0 lim 68 [.ptr pre.length 0 0 0,.agg e.row] (pre++c.obj::r)=some (.agg y.row,pre++c.obj::r)
 |.error a=>∃y:E,∀lim r,(orcL S).call 0 lim 68 [.ptr pre.length 0 0 0,.agg e.row] (pre++c.obj::r)=some (.agg y.row,pre++(c.fail a).obj::r)
theorem E0_row:E0.row=[.int .i64 0,.int .i64 0,.str [],.str [],.int .i64 0,.nilSl,.int .i64 0,.int .i64 0,.int .i64 0,.int .i64 0,.int .i64 0]:=by simp[E0,E.row,E.rows]
theorem ckE_a {H:Hd}{V:List Vd}{e y:E}(h:ckE H V e=.ok y):y.a=e.a:=by
 obtain⟨ks,t,r,_,_,_,rfl⟩:=ckE_ok h
 rfl
theorem value_ok (c:CK)(e:E)(hf:c.fe=0)(h:OkX pre c e):OkW pre c e:=by
 unfold OkX at h
 unfold OkW valE
 have eok:=fun lim r=>ok_ok (pre:=pre) lim c r
 rw[decide_eq_true hf]at eok
 have hkv:isSl (esV e.kids)=true:=isSl_esV
 have hkw:(esV e.kids).view=esV e.kids:=view_esV
 cases hc:ckE c.H c.V e with
 |error a=>
  rw[hc]at h
  simp only at h ⊢
  refine⟨E0,fun lim r=>?_⟩
  have hfe:=fail_fe (c:=c) (a:=a)
  have eok2:=fun lim r=>ok_ok (pre:=pre) lim (c.fail a) r
  rw[decide_eq_false hfe]at eok2
  rw[E0_row]at h ⊢
  rw[E.row_eq e]at h ⊢
  generalize (c.fail a).obj=o2 at *
  generalize c.obj=o at *
  generalize esV e.kids=kv at *
  refine call_run (sf:=s68) rfl rfl rfl ?_
  simp[-a_load,-a_store,s68,h,eok2,hkv,hkw,paste,AV.view]
 |ok y=>
  rw[hc]at h
  simp only at h ⊢
  have ha:=ckE_a hc
  have hyv:isSl (esV y.kids)=true:=isSl_esV
  have hyw:(esV y.kids).view=esV y.kids:=view_esV
  by_cases q:y.ty=T0
  ·rw[if_pos q]
   refine⟨y,fun lim r=>?_⟩
   have ef:=fun lim r=>rfail_ok (pre:=pre) lim c e.a r
   rw[show c.fail y.a=c.fail e.a by rw[ha]]
   rw[E.row_eq e]at h ⊢
   rw[E.row_eq y]at h ⊢
   generalize (c.fail e.a).obj=o2 at *
   generalize c.obj=o at *
   generalize esV e.kids=kv at *
   generalize esV y.kids=yv at *
   refine call_run (sf:=s68) rfl rfl rfl ?_
   simp[-a_load,-a_store,s68,h,eok,q,ef,hkv,hkw,hyv,hyw,paste,AV.view]
  ·rw[if_neg q]
   intro lim r
   rw[E.row_eq e]at h ⊢
   rw[E.row_eq y]at h ⊢
   generalize c.obj=o at *
   generalize esV e.kids=kv at *
   generalize esV y.kids=yv at *
   refine call_run (sf:=s68) rfl rfl rfl ?_
   simp[-a_load,-a_store,s68,h,eok,d0,q,hkv,hkw,hyv,hyw,paste,AV.view]
theorem x_storeM {n k:Nat}{o:AObj}{r0 K:Store}{cs:List AV}{v:AV}{bx:Boxes}(h1:v.cells.length=n)(h2:AV.allCells v.cells=true)(h3:k+v.cells.length<=cs.length) :
  act0 0 (pre.length+(r0.length+1)) (.store n) [.val (.ptr (pre.length+(r0.length+1)) 0 0 k),.val v] (pre++o::(r0++.rows 0 11 [cs]::K)) bx=some (.none,pre++o::(r0++.rows 0 11 [paste cs k v.cells]::K),bx):=by
 rw[a_store,if_pos ⟨h1,h2⟩]
 simp[writeP,mayWrite,h3]
theorem k_store {lim n j k w:Nat}{o X:AObj}{r0 K:Store}{rows:List (List AV)}{row:List AV}{v:AV}{bx:Boxes}(hr:rows[j]?=some row)(h1:v.cells.length=n)(h2:AV.allCells v.cells=true)(h3:k+v.cells.length<=row.length)(h4:AV.allPure v.cells=true) :
  act0 0 lim (.store n) [.val (.ptr (pre.length+(r0.length+1+1)) w j k),.val v] (pre++o::(r0++X::.rows w 11 rows::K)) bx=some (.none,pre++o::(r0++X::.rows w 11 (rows.set j (paste row k v.cells))::K),bx):=by
 rw[a_store,if_pos ⟨h1,h2⟩]
 simp[writeP,mayWrite,h3,h4,hr]
def zeroE:List AV:=[.int .i64 0,.int .i64 0,.str [],.str [],.int .i64 0,.nilSl,.int .i64 0,.int .i64 0,.int .i64 0,.int .i64 0,.int .i64 0]
theorem kids_loop (c:CK)(e:E)(hf:c.fe=0)(hn:e.kids.length<1000000000)(hl:∀x∈e.kids,OkX pre c x)(_lim:Nat)(r0:Store){rs:List SRes}{Q:Ex->St->Prop}{kk:List Todo}(b1:List AV)(kv:AV)(hkv:kv=esV e.kids)(row:List AV)(hrow:row=[.int .i64 e.k,.int .i64 e.n,.str e.nm,.str e.on,.int .i64 e.od,kv,.int .i64 e.a,.int .i64 e.ty.b,.int .i64 e.ty.r,.int .i64 e.ty.d,.int .i64 e.ref])
  (hok:∀ys,ckV c.H c.V e.kids=.ok ys->W S 0 (pre.length+(r0.length+1)) rs Q kk .normal ⟨[(0,.val (.ptr pre.length 0 0 0)),(3,.fp 0 0),(4,.fp 1 0),(6,.val (.ptr (pre.length+(r0.length+1)) 0 0 0))],[row,b1],pre++c.obj::(r0++.rows 0 11 [xRow e.k 0 [] [] 0 (kvI (pre.length+(r0.length+1+1)) ys) e.a T0 0]::kK ys)⟩)
  (hno:∀a X K,ckV c.H c.V e.kids=.error a->W S 0 (pre.length+(r0.length+1)) rs Q kk .normal ⟨[(0,.val (.ptr pre.length 0 0 0)),(3,.fp 0 0),(4,.fp 1 0),(6,.val (.ptr (pre.length+(r0.length+1)) 0 0 0))],[row,b1],pre++(c.fail a).obj::(r0++X::K)⟩) :
  W S 0 (pre.length+(r0.length+1)) rs Q (.code (.loop s67_l0)::.blk 0::kk) .normal ⟨[(0,.val (.ptr pre.length 0 0 0)),(3,.fp 0 0),(4,.fp 1 0),(6,.val (.ptr (pre.length+(r0.length+1)) 0 0 0)),(7,.val (.int .i64 0))],[row,b1],pre++c.obj::(r0++[.rows 0 11 [xRow e.k 0 [] [] 0 .nilSl e.a T0 0]])⟩:=by
 subst hrow
 have hz:isSz 11 kv=true:=by rw[hkv];exact isSz_E
 have hsl:isSl kv=true:=by rw[hkv];exact isSl_esV
 have hvw:kv.view=kv:=by rw[hkv];exact view_esV
 have hrE:rowsL kv=E.rows e.kids:=by rw[hkv];exact rowsL_lstV
 have eok:=fun lim r=>ok_ok (pre:=pre) lim c r
 rw[decide_eq_true hf]at eok
 refine W_loopI s67_l0.eq_1 (fun x:Nat×List E×Option (Int×AObj×Store)=>⟨[(0,.val (.ptr pre.length 0 0 0)),(3,.fp 0 0),(4,.fp 1 0),(6,.val (.ptr (pre.length+(r0.length+1)) 0 0 0)),(7,.val (.int .i64 x.1))],[[.int .i64 e.k,.int .i64 e.n,.str e.nm,.str e.on,.int .i64 e.od,kv,.int .i64 e.a,.int .i64 e.ty.b,.int .i64 e.ty.r,.int .i64 e.ty.d,.int .i64 e.ref],b1],
   match x.2.2 with
   |none=>pre++c.obj::(r0++.rows 0 11 [xRow e.k 0 [] [] 0 (kvI (pre.length+(r0.length+1+1)) x.2.1) e.a T0 0]::kK x.2.1)
   |some (a,X,K)=>pre++(c.fail a).obj::(r0++X::K)⟩)
  (fun x=>x.1<=e.kids.length/\match x.2.2 with
   |none=>x.2.1.length=x.1/\preV x.2.1 (ckV c.H c.V (e.kids.drop x.1))=ckV c.H c.V e.kids
   |some (a,_,_)=>ckV c.H c.V e.kids=.error a) (fun x=>e.kids.length-x.1) (0,[],none) rfl ⟨by simp,rfl,by simp[preV];split<;>rename_i h<;>exact h.symm⟩ ?_
 rintro⟨j,ys,q⟩ ⟨hj,hq⟩ ih
 simp only at hj hq ih
 cases q with
 |some q=>
  obtain⟨a,X,K⟩:=q
  simp only at hq ⊢
  have hfe:=fail_fe (c:=c) (a:=a)
  have eok2:=fun lim r=>ok_ok (pre:=pre) lim (c.fail a) r
  rw[decide_eq_false hfe]at eok2
  have hno':=hno a X K hq
  generalize (c.fail a).obj=o2 at *
  by_cases hlt:j<e.kids.length
  ·simp[-a_load,-a_store,hsl,hvw,hrE,hlt,eok2]
   exact hno'
  ·simp[-a_load,-a_store,hsl,hvw,hrE,hlt]
   exact hno'
 |none=>
  simp only at hq ⊢
  obtain⟨hy,hp⟩:=hq
  by_cases hlt:j<e.kids.length
  ·have hw:IntKind.i64.wrap ((j:Int)+1)=((j+1:Nat):Int):=by rw[wrap64]<;>omega
   have hv:=value_ok (pre:=pre) c e.kids[j] hf (hl _ (List.getElem_mem hlt))
   unfold OkW at hv
   rw[pre_drop hlt]at hp
   have gE:=E_get hlt
   have gE':=fun h2=>E_get' hlt h2
   have hlt':j<(E.rows e.kids).length:=by simpa using hlt
   have gE'':=gE' hlt'
   clear gE'
   have region:∀(b:SCode) (hb:b=s67_l0) (d:AObj) (y:E),(∀lim r,(orcL S).call 0 lim 68 [.ptr pre.length 0 0 0,.agg e.kids[j].row] (pre++c.obj::r)=some (.agg y.row,pre++d::r))->
     W S 0 (pre.length+(r0.length+1)) rs Q (.code (.loop s67_l0)::.blk 0::kk) .normal ⟨[(0,.val (.ptr pre.length 0 0 0)),(3,.fp 0 0),(4,.fp 1 0),(6,.val (.ptr (pre.length+(r0.length+1)) 0 0 0)),(7,.val (.int .i64 ((j+1:Nat):Int)))],[[.int .i64 e.k,.int .i64 e.n,.str e.nm,.str e.on,.int .i64 e.od,kv,.int .i64 e.a,.int .i64 e.ty.b,.int .i64 e.ty.r,.int .i64 e.ty.d,.int .i64 e.ref],b1],
      pre++d::(r0++.rows 0 11 [xRow e.k 0 [] [] 0 (kvI (pre.length+(r0.length+1+1)) (ys++[y])) e.a T0 0]::kK (ys++[y]))⟩->
     W S 0 (pre.length+(r0.length+1)) rs Q (.code b::.again s67_l0::.blk 0::kk) .normal ⟨[(0,.val (.ptr pre.length 0 0 0)),(3,.fp 0 0),(4,.fp 1 0),(6,.val (.ptr (pre.length+(r0.length+1)) 0 0 0)),(7,.val (.int .i64 j))],[[.int .i64 e.k,.int .i64 e.n,.str e.nm,.str e.on,.int .i64 e.od,kv,.int .i64 e.a,.int .i64 e.ty.b,.int .i64 e.ty.r,.int .i64 e.ty.d,.int .i64 e.ref],b1],
      pre++c.obj::(r0++.rows 0 11 [xRow e.k 0 [] [] 0 (kvI (pre.length+(r0.length+1+1)) ys) e.a T0 0]::kK ys)⟩:=by
    intro b hb d y hcall hnext
    rw[s67_l0.eq_1]at hb
    subst hb
    rw[E.row_eq e.kids[j]]at hcall gE gE''
    have hyv:isSl (esV y.kids)=true:=isSl_esV
    have hyw:(esV y.kids).view=esV y.kids:=view_esV
    rw[E.row_eq y]at hcall
    generalize e.kids[j]=x at *
    generalize c.obj=o at *
    clear ih hno hok hl hv
    cases ys with
    |nil=>
     simp only[kvI,kK,List.isEmpty_nil,if_true]
     simp[-a_load,-a_store,hsl,hvw,hrE,hlt,eok]
     rw[W_drawP]
     have hwl:IntKind.i64.wrap (0:Int)=0:=by decide
     simp[-a_load,-a_store,evalRec,x_load,x_storeM,k_store,hyv,fits,room,hvw,hrE,hz,hlt,gE'',a_loadE,hcall,paste,AV.view]
     refine⟨_,_,⟨rfl,rfl⟩,?_⟩
     simp[-a_load,-a_store,pairOk,readsSame,xSt,x_load,x_storeM,boxOk,hw,paste,AV.view,Ent.same,AV.same]
     simp only[List.nil_append,kvI,kK,E.rows,E.row_eq y,List.isEmpty_cons,Bool.false_eq_true,if_false]at hnext
     exact hnext
    |cons y0 l=>
     have hnx:W S 0 (pre.length+(r0.length+1)) rs Q (.code (.loop s67_l0)::.blk 0::kk) .normal ⟨[(0,.val (.ptr pre.length 0 0 0)),(3,.fp 0 0),(4,.fp 1 0),(6,.val (.ptr (pre.length+(r0.length+1)) 0 0 0)),(7,.val (.int .i64 ((j+1:Nat):Int)))],[[.int .i64 e.k,.int .i64 e.n,.str e.nm,.str e.on,.int .i64 e.od,kv,.int .i64 e.a,.int .i64 e.ty.b,.int .i64 e.ty.r,.int .i64 e.ty.d,.int .i64 e.ref],b1],
      pre++d::(r0++.rows 0 11 [xRow e.k 0 [] [] 0 (.mu (pre.length+(r0.length+1+1)) (l.length+1)) e.a T0 0]::[.rows (l.length+1) 11 (E.rows (y0::l)++[y.row])])⟩:=by
      have h1:kvI (pre.length+(r0.length+1+1)) (y0::l++[y])=.mu (pre.length+(r0.length+1+1)) (l.length+1):=by simp[kvI]
      have h2:kK (y0::l++[y])=[.rows (l.length+1) 11 (E.rows (y0::l)++[y.row])]:=by simp[kK,Erows_map]
      rw[h1,h2]at hnext
      exact hnext
     clear hnext
     have hRl:(E.rows (y0::l)).length=l.length+1:=by simp
     simp only[kvI,kK,List.isEmpty_cons,Bool.false_eq_true,if_false,List.length_cons,Nat.add_sub_cancel]
     rw[E.row_eq y]at hnx
     simp only[List.length_cons]at hy
     generalize E.rows (y0::l)=R at *
     have hap:∀(lim:Nat) (o X:AObj) (new:List AV) (bx:Boxes),new.length=11->AV.allPure new=true->act0 0 lim (.appendM 11 120) [.val (.mu (pre.length+(r0.length+1+1)) l.length),.val (.lst 11 [new])] (pre++o::(r0++[X,.rows l.length 11 R])) bx=some (.val (.mu (pre.length+(r0.length+1+1)) (l.length+1)),pre++o::(r0++[X,.rows (l.length+1) 11 (R++[new])]),bx):=fun lim o X new bx h1 h2=>by
      simp[act0,bringsOf,rowsOf,fits,h1,h2,hRl,room]
      omega
     have i1:(0:Int)<=(l.length:Int)+1:=by omega
     have i2:(l.length:Int)<(l.length:Int)+1:=by omega
     have g1:∀z:List AV,(R++[z])[l.length+1]?=some z:=fun z=>by rw[<-hRl];simp
     have g2:∀z w:List AV,(R++[z]).set (l.length+1) w=R++[w]:=fun z w=>by rw[<-hRl];simp
     simp[-a_load,-a_store,hsl,hvw,hrE,hlt,eok]
     rw[W_drawP]
     simp[-a_load,-a_store,evalRec,x_load,x_storeM,k_store,i1,i2,g2,hyv,hap,hRl,hvw,hrE,hz,hlt,gE'',a_loadE,hcall,paste,AV.view]
     refine⟨_,_,⟨rfl,rfl⟩,?_⟩
     simp[-a_load,-a_store,pairOk,readsSame,xSt,x_load,x_storeM,i1,i2,hRl,boxOk,hw,paste,AV.view,Ent.same,AV.same]
     exact hnx
   cases hx:valE c e.kids[j] with
   |error a=>
    rw[hx]at hp hv
    simp only at hp hv
    obtain⟨y,hv⟩:=hv
    exact region _ rfl _ y hv (ih (j+1,ys++[y],some (a,_,_)) ⟨by simp only;omega,hp.symm⟩ (by simp only;omega))
   |ok y=>
    rw[hx]at hp hv
    simp only at hp hv
    exact region _ rfl _ y hv (ih (j+1,ys++[y],none) ⟨by simp only;omega,by simp[hy],hp⟩ (by simp only;omega))
  ·have hkl:j=e.kids.length:=by omega
   have hR:ckV c.H c.V e.kids=.ok ys:=by
    rw[<-hp,hkl,List.drop_length]
    simp[ckV,preV]
   have hok':=hok ys hR
   generalize c.obj=o at *
   simp[-a_load,-a_store,hsl,hvw,hrE,hlt]
   exact hok'
end R9
