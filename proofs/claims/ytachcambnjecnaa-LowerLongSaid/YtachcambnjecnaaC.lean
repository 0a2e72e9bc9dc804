/-
  The type checker's small functions.
-/
import Derived.Test.YtachcambnjecnaaCode2
import Derived.Test.YtachcambnjecnaaP

set_option maxRecDepth 100000
set_option maxHeartbeats 8000000
namespace K9
open Ax Go Code13 V7 Par Chk
def sts (l:List (List UInt8)):List (List AV):=l.map fun s=>[.str s]
structure CK where
 H:Hd
 main:Int
 sg:Sg
 V:List Vd
 fe:Int
 fa:Int
def CK.obj (c:CK):AObj:=.rows 0 14 [[lstV 2 (c.H.shapes.map shRow),fdsV c.H.globals,lstV 6 (c.H.sigs.map Sg.row),.int .i64 c.main,mkL 1 (sts c.H.rs),.str c.sg.nm,fdsV c.sg.ps,.bool c.sg.has,.int .i64 c.sg.res.b,.int .i64 c.sg.res.r,.int .i64 c.sg.res.d,mkL 4 (c.V.map Vd.row),.int .i64 c.fe,.int .i64 c.fa]]
def CK.fail (c:CK)(a:Int):CK:=if c.fe=0 then { c with fe:=3,fa:=a } else c
@[simp] theorem isSl_fdsV {l:List Vd}:isSl (fdsV l)=true:=isSl_lstV
@[simp] theorem view_fdsV {l:List Vd}:(fdsV l).view=fdsV l:=view_lstV
@[simp] theorem rows_fdsV {l:List Vd}:rowsL (fdsV l)=l.map Vd.row:=rowsL_lstV
@[simp] theorem Erows_len {l:List E}:(E.rows l).length=l.length:=by simp[Erows_map]
@[simp] theorem Smrows_len {l:List Sm}:(Sm.rows l).length=l.length:=by simp[Smrows_map]
theorem isSz_lst {sz:Nat}{r:List (List AV)}(h:fits sz r=true):isSz sz (lstV sz r)=true:=by
 cases r with
 |nil=>rfl
 |cons a r=>simp[isSz,h]
@[simp] theorem isSz_fdsV {l:List Vd}:isSz 4 (fdsV l)=true:=isSz_lst (by simp[fits,Vd.row])
@[simp] theorem isSz_E {l:List E}:isSz 11 (lstV 11 (E.rows l))=true:=isSz_lst (by simp[fits,Erows_map,E.row_eq])
@[simp] theorem isSz_Sm {l:List Sm}:isSz 9 (lstV 9 (Sm.rows l))=true:=isSz_lst (by simp[fits,Smrows_map,Sm.row_eq])
theorem c_fe {wl lim:Nat}{c:CK}{r:Store}{bx:Boxes}:act0 wl lim (.load false 1 false) [.val (.ptr 0 0 0 12)] (c.obj::r) bx=some (.val (.int .i64 c.fe),c.obj::r,bx):=by
 simp[CK.obj,cut,AV.view]
theorem c_rc {wl lim:Nat}{c:CK}{r:Store}{bx:Boxes}:act0 wl lim (.load false 1 false) [.val (.ptr 0 0 0 4)] (c.obj::r) bx=some (.val (lstV 1 (sts c.H.rs)),c.obj::r,bx):=by
 simp[CK.obj,cut,lstV]
theorem c_sh {wl lim:Nat}{c:CK}{r:Store}{bx:Boxes}:act0 wl lim (.load false 1 false) [.val (.ptr 0 0 0 0)] (c.obj::r) bx=some (.val (lstV 2 (c.H.shapes.map shRow)),c.obj::r,bx):=by
 simp[CK.obj,cut]
theorem c_gl {wl lim:Nat}{c:CK}{r:Store}{bx:Boxes}:act0 wl lim (.load false 1 false) [.val (.ptr 0 0 0 1)] (c.obj::r) bx=some (.val (fdsV c.H.globals),c.obj::r,bx):=by
 simp[CK.obj,cut]
theorem c_si {wl lim:Nat}{c:CK}{r:Store}{bx:Boxes}:act0 wl lim (.load false 1 false) [.val (.ptr 0 0 0 2)] (c.obj::r) bx=some (.val (lstV 6 (c.H.sigs.map Sg.row)),c.obj::r,bx):=by
 simp[CK.obj,cut]
theorem c_has {wl lim:Nat}{c:CK}{r:Store}{bx:Boxes}:act0 wl lim (.load false 1 false) [.val (.ptr 0 0 0 7)] (c.obj::r) bx=some (.val (.bool c.sg.has),c.obj::r,bx):=by
 simp[CK.obj,cut,AV.view]
theorem c_res {wl lim:Nat}{c:CK}{r:Store}{bx:Boxes}:act0 wl lim (.load true 3 false) [.val (.ptr 0 0 0 8)] (c.obj::r) bx=some (.val (.agg [.int .i64 c.sg.res.b,.int .i64 c.sg.res.r,.int .i64 c.sg.res.d]),c.obj::r,bx):=by
 simp[CK.obj,cut,AV.view]
theorem c_vv {wl lim:Nat}{c:CK}{r:Store}{bx:Boxes}:act0 wl lim (.load false 1 false) [.val (.ptr 0 0 0 11)] (c.obj::r) bx=some (.val (fdsV c.V),c.obj::r,bx):=by
 simp[CK.obj,cut,fdsV,lstV]
theorem c_flt {lim:Nat}{c:CK}{a:Int}{r:Store}{bx:Boxes}:act0 0 lim (.store 2) [.val (.ptr 0 0 0 12),.val (.agg [.int .i64 3,.int .i64 a])] (c.obj::r) bx=some (.none,({ c with fe:=3,fa:=a }:CK).obj::r,bx):=by
 simp[CK.obj,mayWrite,AV.allPure,AV.isPure,paste]
theorem none_ok (wl lim:Nat)(st:Store):(orcL S).call wl lim 71 [] st=some (.agg [.int .i64 0,.int .i64 0,.int .i64 0],st):=by
 refine call_pure (sf:=s71) rfl rfl (by simp) rfl (by simp[AV.isPure,AV.allPure]) ?_
 simp[s71]
theorem truth_ok (wl lim:Nat)(st:Store):(orcL S).call wl lim 90 [] st=some (.agg [.int .i64 2,.int .i64 0,.int .i64 0],st):=by
 refine call_pure (sf:=s90) rfl rfl (by simp) rfl (by simp[AV.isPure,AV.allPure]) ?_
 simp[s90]
theorem number_ok (wl lim:Nat)(st:Store):(orcL S).call wl lim 91 [] st=some (.agg [.int .i64 1,.int .i64 0,.int .i64 0],st):=by
 refine call_pure (sf:=s91) rfl rfl (by simp) rfl (by simp[AV.isPure,AV.allPure]) ?_
 simp[s91]
theorem failed_ok (lim:Nat)(c:CK)(r:Store):(orcL S).call 0 lim 25 [.ptr 0 0 0 0] (c.obj::r)=some (.bool (!decide (c.fe=0)),c.obj::r):=by
 refine call_run (sf:=s25) rfl rfl rfl ?_
 simp[-a_load,-a_store,s25,c_fe]
theorem fail_ok (lim:Nat)(c:CK)(a:Int)(r:Store):(orcL S).call 0 lim 73 [.ptr 0 0 0 0,.int .i64 a] (c.obj::r)=some (.tup [],(c.fail a).obj::r):=by
 have e:=fun lim=>failed_ok lim c r
 refine call_run (sf:=s73) rfl rfl rfl ?_
 unfold CK.fail
 by_cases h:c.fe=0
 ·rw[if_pos h]
  simp[-a_load,-a_store,s73,e,h,c_flt]
 ·rw[if_neg h]
  simp[-a_load,-a_store,s73,e,h]
theorem kinds_ok (wl lim:Nat)(e:E)(st:Store):(orcL S).call wl lim 84 [.agg e.row] st=some (.bool (kindsT e.k e.n e.kids.length),st):=by
 obtain⟨k,n,nm,on,od,kids,a,ty,ref⟩:=e
 refine call_pure (sf:=s84) rfl rfl (by simp[E.row,AV.allPure,AV.isPure]) rfl (by simp) ?_
 simp only[E.row,E.k,E.n,E.kids]
 unfold kindsT
 have m0:((kids.length:Int)=0)=(kids.length=0):=by simp
 have m1:((kids.length:Int)=1)=(kids.length=1):=by apply propext;omega
 have m2:((kids.length:Int)=2)=(kids.length=2):=by apply propext;omega
 have hl:lenV [] .sl (lstV 11 (E.rows kids))=some kids.length:=by simp[lenV]
 generalize hv:lstV 11 (E.rows kids)=v at *
 have v1:isSl v=true:=by rw[<-hv];simp
 have v2:v.view=v:=by rw[<-hv];simp
 have v3:(rowsL v).length=kids.length:=by rw[<-hv];simp
 generalize kids.length=m at *
 by_cases h1:k=1
 ·subst h1;simp[s84,v1,v2,v3]
 by_cases h3:k=3
 ·subst h3;simp[s84,v1,v2,v3]
 by_cases h4:k=4
 ·subst h4;simp[s84,v1,v2,v3]
 by_cases h8:k=8
 ·subst h8;simp[s84,v1,v2,v3]
 by_cases h11:k=11
 ·subst h11;simp[s84,v1,v2,v3]
 by_cases h2:k=2
 ·subst h2
  by_cases q:m=0
  ·by_cases n0:n=0
   ·simp[s84,v1,v2,v3,q,n0]
   ·simp[s84,v1,v2,v3,q,n0]
  ·simp[s84,v1,v2,v3,q]
 by_cases h7:k=7
 ·subst h7;simp[s84,v1]
 by_cases h5:k=5
 ·subst h5;simp[s84,v1,v2,v3,m1]
 by_cases h9:k=9
 ·subst h9;simp[s84,v1,v2,v3,m1]
 by_cases h10:k=10
 ·subst h10;simp[s84,v1,v2,v3,m1]
 by_cases h12:k=12
 ·subst h12;simp[s84,v1,v2,v3,m1]
 by_cases h13:k=13
 ·subst h13;simp[s84,v1,v2,v3,m1]
 by_cases h6:k=6
 ·subst h6;simp[s84,v1,v2,v3,m2]
 by_cases g1:14<=k
 ·by_cases g2:k<=24
  ·simp[s84,v1,v2,v3,h1,h2,h3,h4,h5,h6,h7,h8,h9,h10,h11,h12,h13,g1,g2,m2]
  ·simp[s84,v1,h1,h2,h3,h4,h5,h6,h7,h8,h9,h10,h11,h12,h13,g1,g2]
 ·simp[s84,v1,h1,h2,h3,h4,h5,h6,h7,h8,h9,h10,h11,h12,h13,g1]
theorem kept_ok (wl lim:Nat)(e:E)(st:Store):(orcL S).call wl lim 85 [.agg e.row] st=some (.agg [.int .i64 e.k,.int .i64 (keptN e.k e.n),.str (keptNm e.k e.nm),.str (keptOn e.k e.on),.int .i64 (keptOd e.k e.od),.nilSl,.int .i64 e.a,.int .i64 0,.int .i64 0,.int .i64 0,.int .i64 0],st):=by
 obtain⟨k,n,nm,on,od,kids,a,ty,ref⟩:=e
 refine call_pure (sf:=s85) rfl rfl (by simp[E.row,AV.allPure,AV.isPure]) rfl (by simp[AV.allPure,AV.isPure]) ?_
 simp only[E.row,E.k,E.n,E.nm,E.on,E.od,E.a]
 unfold keptN keptNm keptOn keptOd
 by_cases h1:k=1
 ·subst h1;simp[s85,paste]
 by_cases h2:k=2
 ·subst h2;simp[s85,paste]
 by_cases h3:k=3
 ·subst h3;simp[s85,paste]
 by_cases h8:k=8
 ·subst h8;simp[s85,paste]
 by_cases h9:k=9
 ·subst h9;simp[s85,paste]
 by_cases h4:k=4
 ·subst h4;simp[s85,paste]
 by_cases h5:k=5
 ·subst h5;simp[s85,paste]
 by_cases h7:k=7
 ·subst h7;simp[s85,paste]
 simp[s85,paste,h1,h2,h3,h4,h5,h7,h8,h9]
end K9
namespace K9
open Ax Go Code13 V7 Par Chk
theorem a_loadE {wl lim:Nat}{agg:Bool}{n sz i k:Nat}{rows:List (List AV)}{st:Store}{bx:Boxes}:act0 wl lim (.load agg n false) [.val (.pel sz rows i k)] st bx=optE st bx ((readP st (.pel sz rows i k) n).bind fun cs=>oneOrAgg agg (AV.viewL cs)):=a_load
def nameI (o:Option (Nat×T3)):Int:=match o with|some (k,_)=>(k:Int)|none=>-1
theorem look_drop {s:List UInt8}{l:List Vd}{k:Nat}(h:k<l.length):lookF s k (l.drop k)=if l[k].nm=s then some (k,l[k].ty) else lookF s (k+1) (l.drop (k+1)):=by
 rw[List.drop_eq_getElem_cons h];rfl
theorem lam_ok (lim:Nat)(f:Vd)(s:List UInt8):(orcL S).call 0 lim 104 [.agg f.row,.ptr 0 0 0 0] [.rows 0 1 [[.str s]]]=some (.bool (decide (f.nm=s)),[.rows 0 1 [[.str s]]]):=by
 refine call_run (sf:=s104) rfl rfl rfl ?_
 simp[s104,Vd.row,cut,AV.view]
theorem indexF_ok (lim:Nat)(l:List Vd)(s:List UInt8)(hn:l.length<1000000000):(orcL S).call 0 lim 103 [fdsV l,.fn 104 [] [.ptr 0 0 0 0]] [.rows 0 1 [[.str s]]]=some (.int .i64 (nameI (lookF s 0 l)),[.rows 0 1 [[.str s]]]):=by
 have el:=fun lim f=>lam_ok lim f s
 simp only[Vd.row,T3.cells]at el
 refine call_run (sf:=s103) rfl rfl rfl ?_
 simp[s103]
 refine W_loopI s103_l0.eq_1 (fun q:Nat×Int=>⟨[(0,.val (fdsV l)),(1,.val (.fn 104 [] [.ptr 0 0 0 0])),(7,.val (.int .i64 l.length)),(8,.val (.int .i64 q.1))],[],[.rows 0 1 [[.str s]]]⟩)
  (fun q=>q.1<=l.length/\lookF s 0 l=lookF s q.1 (l.drop q.1)) (fun q=>l.length-q.1) (0,0) (by simp) ⟨by simp,by simp⟩ ?_
 rintro⟨k,bb⟩ ⟨hk,hp⟩ ih
 simp only at hk hp ih
 by_cases hlt:k<l.length
 ·have hw:IntKind.i64.wrap ((k:Int)+1)=((k+1:Nat):Int):=by rw[wrap64]<;>omega
  rw[look_drop hlt]at hp
  have e1:=fun lim=>el lim l[k]
  by_cases e:l[k].nm=s
  ·rw[if_pos e]at hp
   rw[hp]
   rw[decide_eq_true e]at e1
   simp[hlt,e1,Vd.row,nameI]
  ·rw[if_neg e]at hp
   rw[decide_eq_false e]at e1
   simp[hlt,e1,Vd.row,hw]
   exact ih (k+1,0) ⟨by simp;omega,hp⟩ (by simp;omega)
 ·have hkl:k=l.length:=by omega
  have:lookF s 0 l=none:=by rw[hp,hkl,List.drop_length];rfl
  rw[this]
  simp[hlt,nameI]
theorem named_ok (wl lim:Nat)(l:List Vd)(s:List UInt8)(st:Store)(hn:l.length<1000000000):(orcL S).call wl lim 98 [fdsV l,.str s] st=some (.int .i64 (nameI (lookF s 0 l)),st):=by
 have e:=fun lim=>indexF_ok lim l s hn
 refine call_pure (sf:=s98) rfl rfl (by simp[AV.allPure]) rfl (by simp) ?_
 simp[s98,e]
theorem look_get {s:List UInt8}:∀{l:List Vd}{i k:Nat}{t:T3},lookF s i l=some (k,t)->i<=k/\∃h:k-i<l.length,l[k-i].ty=t/\l[k-i].nm=s
 |[],_,_,_,h=>by cases h
 |f::l,i,k,t,h=>by
  unfold lookF at h
  split at h
  ·rename_i hs
   cases h
   exact⟨Nat.le_refl _,by simp,by simp,by simpa using hs⟩
  ·obtain⟨h1,h2,h3,h4⟩:=look_get h
   refine⟨by omega,by simp only[List.length_cons];omega,?_⟩
   have:k-i=(k-(i+1))+1:=by omega
   simp only[this,List.getElem_cons_succ]
   exact⟨h3,h4⟩
theorem look_at {s:List UInt8}{l:List Vd}{k:Nat}{t:T3}(h:lookF s 0 l=some (k,t)):∃h:k<l.length,l[k].ty=t:=by
 obtain⟨_,h1,h2,_⟩:=look_get h
 exact⟨by simpa using h1,by simpa using h2⟩
structure Small (c:CK):Prop where
 V:c.V.length<1000000000
 G:c.H.globals.length<1000000000
 S:c.H.sigs.length<1000000000
 R:c.H.rs.length<1000000000
 F:∀s∈c.H.shapes,s.2.length<1000000000
 P:∀s∈c.H.sigs,s.ps.length<1000000000
def varV (o:Option (T3×Int)):AV:=match o with
 |some (t,r)=>.tup [.int .i64 r,.agg t.cells,.bool true]
 |none=>.tup [.int .i64 0,.agg T0.cells,.bool false]
theorem variable_ok (lim:Nat)(c:CK)(s:List UInt8)(r:Store)(hs:Small c):(orcL S).call 0 lim 89 [.ptr 0 0 0 0,.str s] (c.obj::r)=some (varV (varT c.H c.V s),c.obj::r):=by
 have e1:=fun wl lim st=>named_ok wl lim c.V s st hs.V
 have e2:=fun wl lim st=>named_ok wl lim c.H.globals s st hs.G
 have en:=fun wl lim st=>none_ok wl lim st
 have hV:=hs.V
 have hG:=hs.G
 refine call_run (sf:=s89) rfl rfl rfl ?_
 unfold varT
 cases h1:lookF s 0 c.V with
 |some x=>
  obtain⟨k,t⟩:=x
  obtain⟨hk,ht⟩:=look_at h1
  subst ht
  rw[h1]at e1
  simp only[nameI]at e1
  have hk0:¬((k:Int)<0):=by omega
  simp[-a_load,-a_store,s89,c_vv,e1,varV,a_loadE,hk,Vd.row,W_draw0,noBoxes,paste]
 |none=>
  rw[h1]at e1
  simp only[nameI]at e1
  cases h2:lookF s 0 c.H.globals with
  |some x=>
   obtain⟨k,t⟩:=x
   obtain⟨hk,ht⟩:=look_at h2
   subst ht
   rw[h2]at e2
   simp only[nameI]at e2
   have hk0:¬((k:Int)<0):=by omega
   have hw:IntKind.i64.wrap (-1-(k:Int)) = -1-(k:Int):=by rw[wrap64]<;>omega
   simp[-a_load,-a_store,s89,c_vv,c_gl,e1,e2,hw,varV,a_loadE,hk,Vd.row,W_draw0,noBoxes,paste]
  |none=>
   rw[h2]at e2
   simp only[nameI]at e2
   simp[-a_load,-a_store,s89,c_vv,c_gl,e1,e2,en,varV,paste]
def typV (o:Option (T3×Int)):AV:=match o with
 |some (t,r)=>.tup [.agg [.int .i64 t.b,.int .i64 t.r,.int .i64 t.d],.int .i64 r,.bool true]
 |none=>.tup [.agg [.int .i64 0,.int .i64 0,.int .i64 0],.int .i64 0,.bool false]
def declV (V:List Vd)(o:Option (Nat×T3)):AV:=match o with|some _=>.tup [.int .i64 0,.bool false]|none=>.tup [.int .i64 V.length,.bool true]
def CK.objT (c:CK)(w:AV):AObj:=.rows 0 14 [[lstV 2 (c.H.shapes.map shRow),fdsV c.H.globals,lstV 6 (c.H.sigs.map Sg.row),.int .i64 c.main,mkL 1 (sts c.H.rs),.str c.sg.nm,fdsV c.sg.ps,.bool c.sg.has,.int .i64 c.sg.res.b,.int .i64 c.sg.res.r,.int .i64 c.sg.res.d,w,.int .i64 c.fe,.int .i64 c.fa]]
theorem c_take {lim:Nat}{c:CK}{bx:Boxes}:act0 0 lim (.load false 1 true) [.val (.ptr 0 0 0 11)] [c.obj] bx=some (.val (mkL 4 (c.V.map Vd.row)),[c.objT (mkL 4 (c.V.map Vd.row)).took],bx):=by
 simp only[CK.obj,CK.objT]
 generalize c.V.map Vd.row=rows
 cases rows with
 |nil=>simp[act0,mkL,cut,readP,writeP,mayWrite,AV.took,AV.isPure,AV.allPure,paste,oneOrAgg]
 |cons a l=>simp[act0,mkL,cut,readP,writeP,mayWrite,AV.took,AV.isPure,AV.allPure,paste,oneOrAgg]
theorem c_put {lim:Nat}{c:CK}{w:AV}{W:List Vd}{bx:Boxes}:act0 0 lim (.store 1) [.val (.ptr 0 0 0 11),.val (mkL 4 (W.map Vd.row))] [c.objT w] bx=some (.none,[({ c with V:=W }:CK).obj],bx):=by
 simp[CK.obj,CK.objT,mayWrite,AV.allPure,paste]
theorem declare_ok (lim:Nat)(c:CK)(s:List UInt8)(t:T3)(hs:Small c):(orcL S).call 0 lim 88 [.ptr 0 0 0 0,.str s,.agg [.int .i64 t.b,.int .i64 t.r,.int .i64 t.d]] [c.obj] =
  some (declV c.V (lookF s 0 c.V),[(match lookF s 0 c.V with|some _=>c|none=>{ c with V:=c.V++[(⟨s,t⟩:Vd)] }:CK).obj]):=by
 have e1:=fun wl lim st=>named_ok wl lim c.V s st hs.V
 have hV:=hs.V
 refine call_run (sf:=s88) rfl rfl rfl ?_
 cases h1:lookF s 0 c.V with
 |some x=>
  obtain⟨k,u⟩:=x
  rw[h1]at e1
  simp only[nameI]at e1
  have hk0:(0:Int)<=(k:Int):=by omega
  simp[-a_load,-a_store,s88,c_vv,e1,hk0,declV]
 |none=>
  rw[h1]at e1
  simp only[nameI]at e1
  have hap:=appV_mk (sz:=4) (bytes:=40) (r:=c.V.map Vd.row) (new:=[[.str s,.int .i64 t.b,.int .i64 t.r,.int .i64 t.d]]) (by simp[fits]) (by simp[room];omega)
  have hrw:c.V.map Vd.row++[[.str s,.int .i64 t.b,.int .i64 t.r,.int .i64 t.d]]=(c.V++[(⟨s,t⟩:Vd)]).map Vd.row:=by simp[Vd.row]
  rw[hrw]at hap
  have ep:=fun lim bx=>c_put (lim:=lim) (c:=c) (w:=(mkL 4 (c.V.map Vd.row)).took) (W:=c.V++[(⟨s,t⟩:Vd)]) (bx:=bx)
  have et:=fun lim bx=>c_take (lim:=lim) (c:=c) (bx:=bx)
  have ev:=fun wl lim bx=>c_vv (wl:=wl) (lim:=lim) (c:={ c with V:=c.V++[(⟨s,t⟩:Vd)] }) (r:=[]) (bx:=bx)
  simp only at ev
  have hLl:(rowsL (fdsV (c.V++[(⟨s,t⟩:Vd)]))).length=c.V.length+1:=by simp
  have hLs:isSl (fdsV (c.V++[(⟨s,t⟩:Vd)]))=true:=isSl_fdsV
  generalize fdsV (c.V++[(⟨s,t⟩:Vd)])=R2 at *
  generalize ({ c with V:=c.V++[(⟨s,t⟩:Vd)] }:CK).obj=ob2 at *
  generalize c.objT (mkL 4 (c.V.map Vd.row)).took=ob1 at *
  generalize mkL 4 ((c.V++[(⟨s,t⟩:Vd)]).map Vd.row)=R at *
  generalize mkL 4 (c.V.map Vd.row)=R0 at *
  have hw:IntKind.i64.wrap (c.V.length:Int)=(c.V.length:Int):=by rw[wrap64]<;>omega
  simp[-a_load,-a_store,s88,c_vv,e1,declV,et,ep,ev,hap,hLs,hLl,hw,W_draw0,noBoxes,AV.view]
end K9
namespace K9
open Ax Go Code13 V7 Par Chk
theorem idx_ok (wl lim:Nat)(l:List (List UInt8))(s:List UInt8)(st:Store)(hn:l.length<1000000000) :
  (orcL S).call wl lim 69 [lstV 1 (sts l),.str s] st=some (.int .i64 (idxS l s),st):=by
 have hz:isSz 1 (lstV 1 (sts l))=true:=isSz_lst (by simp[fits,sts])
 have hl:(sts l).length=l.length:=by simp[sts]
 have hg:∀k (h:k<(sts l).length),(sts l)[k]=[.str (l[k]'(by simpa [sts] using h))]:=fun k h=>by simp[sts]
 have hg2:∀k (h:k<l.length),(sts l)[k]?=some [.str l[k]]:=fun k h=>by simp[sts,h]
 refine call_pure (sf:=s69) rfl rfl (by simp) rfl (by simp) ?_
 simp[s69,hl]
 refine W_loopI s69_l0.eq_1 (fun q:Nat×Int=>⟨[(0,.val (lstV 1 (sts l))),(1,.val (.str s)),(7,.val (.int .i64 l.length)),(8,.val (.int .i64 q.1))],[],[]⟩)
  (fun q=>q.1<=l.length/\nope (fun x=>decide (x=s)) l q.1) (fun q=>l.length-q.1) (0,0) (by simp) ⟨by simp,nope_zero⟩ ?_
 rintro⟨k,bb⟩ ⟨hk,hp⟩ ih
 simp only at hk hp ih
 by_cases hlt:k<l.length
 ·have hw:IntKind.i64.wrap ((k:Int)+1)=((k+1:Nat):Int):=by rw[wrap64]<;>omega
  have g:=hg2 k hlt
  by_cases e:l[k]=s
  ·have hi:=idxS_at hp hlt e
   simp[hlt,hz,hl,hg,e,hi]
  ·have e':¬s=l[k]:=fun h=>e h.symm
   simp[hlt,hz,hl,hg,e',hw]
   exact ih (k+1,0) ⟨by simp;omega,nope_succ hp hlt (by simpa using e)⟩ (by simp;omega)
 ·have hkl:k=l.length:=by omega
  have hi:=idxS_none (hkl ▸ hp)
  simp[hlt,hi]
def tyV (x:T3×Bool):AV:=.tup [.agg [.int .i64 x.1.b,.int .i64 x.1.r,.int .i64 x.1.d],.bool x.2]
theorem type_ok (wl lim:Nat)(l:List (List UInt8))(s:List UInt8)(d:Int)(st:Store)(hn:l.length<1000000000) :
  (orcL S).call wl lim 70 [lstV 1 (sts l),.agg [.str s,.int .i64 d]] st=some (tyV (typeT l s d),st):=by
 have hi:=idx_ok 0 0 l s [] hn
 refine call_pure (sf:=s70) rfl rfl (by simp[AV.allPure,AV.isPure]) rfl (by simp[tyV,AV.isPure,AV.allPure]) ?_
 unfold tyV
 by_cases d0:d<0
 ·have:typeT l s d=(T0,false):=if_pos (.inl d0)
  rw[this]
  simp[s70,d0]
 by_cases d3:3<d
 ·have:typeT l s d=(T0,false):=if_pos (.inr d3)
  rw[this]
  simp[s70,d0,d3]
 have hd:¬(d<0\/3<d):=by omega
 unfold typeT
 rw[if_neg hd]
 by_cases i1:s=[105,110,116]
 ·simp[s70,d0,d3,i1]
 by_cases i2:s=[98,111,111,108]
 ·simp[s70,d0,d3,i2]
 rw[if_neg i1,if_neg i2]
 by_cases i3:idxS l s<0
 ·simp[s70,d0,d3,i1,i2,hi,i3]
 ·simp[s70,d0,d3,i1,i2,hi,i3]
theorem ref_ok (wl lim:Nat)(t:T3)(st:Store):(orcL S).call wl lim 28 [.agg [.int .i64 t.b,.int .i64 t.r,.int .i64 t.d]] st=some (.bool (refT t),st):=by
 refine call_pure (sf:=s28) rfl rfl (by simp[AV.allPure,AV.isPure]) rfl (by simp) ?_
 unfold refT
 by_cases b:t.b=3
 ·simp[s28,b]
 ·simp[s28,b]
theorem field_ok (lim:Nat)(c:CK)(e:E)(x:E)(hk:e.kids=[x])(hs:Small c)(hx:x.ty.b=3->0<=x.ty.r/\x.ty.r<c.H.shapes.length) :
  (orcL S).call 0 lim 95 [.ptr 0 0 0 0,.agg e.row] [c.obj]=some (typV (fieldT c.H x.ty e.nm),[c.obj]):=by
 have en:=fun wl lim st=>none_ok wl lim st
 have hrow:=E.row_eq e
 have hz:isSz 11 (esV e.kids)=true:=isSz_E
 have hrx:rowsL (esV e.kids)=[x.row]:=by rw[hk];simp[esV,E.rows]
 have hsl:isSl (esV e.kids)=true:=isSl_esV
 have hvw:(esV e.kids).view=esV e.kids:=view_esV
 rw[E.row_eq x]at hrx
 rw[hrow]
 generalize esV e.kids=kv at *
 have hzs:isSz 2 (lstV 2 (c.H.shapes.map shRow))=true:=isSz_lst (by simp[fits,shRow])
 refine call_run (sf:=s95) rfl rfl rfl ?_
 unfold fieldT
 by_cases hb:x.ty.b=3
 ·by_cases hd:x.ty.d=0
  ·rw[if_pos ⟨hb,hd⟩]
   obtain⟨h0,h1⟩:=hx hb
   obtain⟨k,hk'⟩:∃k:Nat,x.ty.r=k:=⟨x.ty.r.toNat,by omega⟩
   have hkl:k<c.H.shapes.length:=by omega
   have hg:c.H.shapes[k]?=some c.H.shapes[k]:=List.getElem?_eq_getElem hkl
   have hF:=hs.F _ (List.getElem_mem hkl)
   generalize hsh:c.H.shapes[k]=sh at *
   have e1:=fun wl lim st=>named_ok wl lim sh.2 e.nm st hF
   rw[hk',Int.toNat_natCast,hg]
   simp only
   rw[hk']at hrx
   have hgm:∀h:k<(c.H.shapes.map shRow).length,(c.H.shapes.map shRow)[k]=[.str sh.1,fdsV sh.2]:=fun h=>by simp[hsh,shRow]
   cases h2:lookF e.nm 0 sh.2 with
   |some y=>
    obtain⟨j,u⟩:=y
    obtain⟨hj,hu⟩:=look_at h2
    subst hu
    rw[h2]at e1
    simp only[nameI]at e1
    have hj0:¬((j:Int)<0):=by omega
    simp[-a_load,-a_store,s95,a_loadE,c_sh,hz,hsl,hvw,hrx,hb,hd,hzs,hkl,hgm,e1,hj0,hj,Vd.row,typV,W_draw0,noBoxes,paste,AV.view]
   |none=>
    rw[h2]at e1
    simp only[nameI]at e1
    simp[-a_load,-a_store,s95,a_loadE,c_sh,hz,hsl,hvw,hrx,hb,hd,hzs,hkl,hgm,e1,en,typV,W_draw0,noBoxes,paste,AV.view]
  ·rw[if_neg (fun h=>hd h.2)]
   simp[-a_load,-a_store,s95,a_loadE,hz,hsl,hvw,hrx,hb,hd,en,typV,paste,AV.view]
 ·rw[if_neg (fun h=>hb h.1)]
  simp[-a_load,-a_store,s95,a_loadE,hz,hsl,hvw,hrx,hb,en,typV,paste,AV.view]
theorem ext3 (t u:T3):(t=u)=(t.b=u.b/\t.r=u.r/\t.d=u.d):=by
 obtain⟨a,b,c⟩:=t
 obtain⟨d,e,f⟩:=u
 simp
theorem dU (t u:T3):(decide (t.b=u.b)&&(decide (t.r=u.r)&&decide (t.d=u.d)))=decide (t=u):=by
 rw[Bool.eq_iff_iff]
 simp only[Bool.and_eq_true,decide_eq_true_eq]
 exact(iff_of_eq (ext3 t u)).symm
theorem dI (t:T3):(decide (t.b=1)&&(decide (t.r=0)&&decide (t.d=0)))=decide (t=tI):=dU t tI
theorem dB (t:T3):(decide (t.b=2)&&(decide (t.r=0)&&decide (t.d=0)))=decide (t=tB):=dU t tB
theorem d0 (t:T3):(decide (t.b=0)&&(decide (t.r=0)&&decide (t.d=0)))=decide (t=T0):=dU t T0
def twoR (k:Int):T3:=if k=14\/k=15\/k=16\/k=17\/k=18 then tI else tB
theorem okT_some {b:Bool}{t:T3}:(okT b t).isSome=b:=by cases b<;>rfl
theorem okT_eq {b:Bool}{t u:T3}{r:Int}(h:okT b t=some (u,r)):t=u/\0=r:=by cases b<;>cases h;exact⟨rfl,rfl⟩
theorem two_eq {k:Int}{a b u:T3}{r:Int}(h:twoT k a b=some (u,r)):twoR k=u/\0=r:=by
 unfold twoT at h
 unfold twoR
 split at h
 ·rename_i c;rw[if_pos c];exact okT_eq h
 ·rename_i c
  rw[if_neg c]
  split at h
  ·exact okT_eq h
  ·split at h<;>exact okT_eq h
theorem two_ok (lim:Nat)(c:CK)(e x y:E)(hk:e.kids=[x,y]):(orcL S).call 0 lim 97 [.ptr 0 0 0 0,.agg e.row] [c.obj] =
  some (.tup [.agg [.int .i64 (twoR e.k).b,.int .i64 (twoR e.k).r,.int .i64 (twoR e.k).d],.int .i64 0,.bool (twoT e.k x.ty y.ty).isSome],[c.obj]):=by
 have et:=fun wl lim st=>truth_ok wl lim st
 have en:=fun wl lim st=>number_ok wl lim st
 have hz:isSz 11 (esV e.kids)=true:=isSz_E
 have hrx:rowsL (esV e.kids)=[x.row,y.row]:=by rw[hk];simp[esV,E.rows]
 have hsl:isSl (esV e.kids)=true:=isSl_esV
 have hvw:(esV e.kids).view=esV e.kids:=view_esV
 rw[E.row_eq x,E.row_eq y]at hrx
 rw[E.row_eq e]
 generalize esV e.kids=kv at *
 refine call_run (sf:=s97) rfl rfl rfl ?_
 unfold twoT twoR
 generalize e.k=k
 have fin:∀(p:Bool) (t:T3),(okT p t).isSome=p:=fun p t=>okT_some
 by_cases h1:k=14
 ·subst h1;by_cases q:x.ty=tI<;>simp[-a_load,-a_store,s97,a_loadE,hz,hsl,hvw,hrx,en,dI,q,fin,W_draw0,W_drawB,boxOk,noBoxes,paste,AV.view]
 by_cases h2:k=15
 ·subst h2;by_cases q:x.ty=tI<;>simp[-a_load,-a_store,s97,a_loadE,hz,hsl,hvw,hrx,en,dI,q,fin,W_draw0,W_drawB,boxOk,noBoxes,paste,AV.view]
 by_cases h3:k=16
 ·subst h3;by_cases q:x.ty=tI<;>simp[-a_load,-a_store,s97,a_loadE,hz,hsl,hvw,hrx,en,dI,q,fin,W_draw0,W_drawB,boxOk,noBoxes,paste,AV.view]
 by_cases h4:k=17
 ·subst h4;by_cases q:x.ty=tI<;>simp[-a_load,-a_store,s97,a_loadE,hz,hsl,hvw,hrx,en,dI,q,fin,W_draw0,W_drawB,boxOk,noBoxes,paste,AV.view]
 by_cases h5:k=18
 ·subst h5;by_cases q:x.ty=tI<;>simp[-a_load,-a_store,s97,a_loadE,hz,hsl,hvw,hrx,en,dI,q,fin,W_draw0,W_drawB,boxOk,noBoxes,paste,AV.view]
 by_cases h6:k=19
 ·subst h6;by_cases q:x.ty=tI<;>simp[-a_load,-a_store,s97,a_loadE,hz,hsl,hvw,hrx,en,et,dI,q,fin,W_draw0,W_drawB,boxOk,noBoxes,paste,AV.view]
 by_cases h7:k=20
 ·subst h7;by_cases q:x.ty=tI<;>simp[-a_load,-a_store,s97,a_loadE,hz,hsl,hvw,hrx,en,et,dI,q,fin,W_draw0,W_drawB,boxOk,noBoxes,paste,AV.view]
 by_cases h8:k=21
 ·subst h8;simp[-a_load,-a_store,s97,a_loadE,hz,hsl,hvw,hrx,et,dU,fin,W_draw0,W_drawB,boxOk,noBoxes,paste,AV.view]
 by_cases h9:k=22
 ·subst h9;simp[-a_load,-a_store,s97,a_loadE,hz,hsl,hvw,hrx,et,dU,fin,W_draw0,W_drawB,boxOk,noBoxes,paste,AV.view]
 by_cases q:x.ty=tB<;>simp[-a_load,-a_store,s97,a_loadE,hz,hsl,hvw,hrx,et,dB,q,fin,h1,h2,h3,h4,h5,h6,h7,h8,h9,W_draw0,W_drawB,boxOk,noBoxes,paste,AV.view]
def sigI (o:Option (Nat×Sg)):Int:=match o with|some (k,_)=>(k:Int)|none=>-1
theorem sig_drop {s:List UInt8}{l:List Sg}{k:Nat}(h:k<l.length):lookS s k (l.drop k)=if l[k].nm=s then some (k,l[k]) else lookS s (k+1) (l.drop (k+1)):=by
 rw[List.drop_eq_getElem_cons h];rfl
theorem sig_get {s:List UInt8}:∀{l:List Sg}{i k:Nat}{t:Sg},lookS s i l=some (k,t)->i<=k/\∃h:k-i<l.length,l[k-i]=t
 |[],_,_,_,h=>by cases h
 |f::l,i,k,t,h=>by
  unfold lookS at h
  split at h
  ·cases h
   exact⟨Nat.le_refl _,by simp,by simp⟩
  ·obtain⟨h1,h2,h3⟩:=sig_get h
   refine⟨by omega,by simp only[List.length_cons];omega,?_⟩
   have:k-i=(k-(i+1))+1:=by omega
   simp only[this,List.getElem_cons_succ]
   exact h3
theorem sig_at {s:List UInt8}{l:List Sg}{k:Nat}{t:Sg}(h:lookS s 0 l=some (k,t)):∃h:k<l.length,l[k]=t:=by
 obtain⟨_,h1,h2⟩:=sig_get h
 exact⟨by simpa using h1,by simpa using h2⟩
theorem lamS_ok (lim:Nat)(g:Sg)(e:E)(o:AObj):(orcL S).call 0 lim 102 [.agg g.row,.ptr 1 0 0 0] [o,.rows 0 11 [e.row]]=some (.bool (decide (g.nm=e.nm)),[o,.rows 0 11 [e.row]]):=by
 refine call_run (sf:=s102) rfl rfl rfl ?_
 rw[E.row_eq]
 simp[s102,Sg.row,cut,AV.view]
theorem indexS_ok (lim:Nat)(l:List Sg)(e:E)(o:AObj)(hn:l.length<1000000000):(orcL S).call 0 lim 39 [lstV 6 (l.map Sg.row),.fn 102 [] [.ptr 1 0 0 0]] [o,.rows 0 11 [e.row]]=some (.int .i64 (sigI (lookS e.nm 0 l)),[o,.rows 0 11 [e.row]]):=by
 have el:=fun lim f=>lamS_ok lim f e o
 simp only[Sg.row]at el
 have hz:isSz 6 (lstV 6 (l.map Sg.row))=true:=isSz_lst (by simp[fits,Sg.row])
 generalize AObj.rows 0 11 [e.row]=o2 at *
 refine call_run (sf:=s39) rfl rfl rfl ?_
 simp[s39]
 refine W_loopI s39_l0.eq_1 (fun q:Nat×Int=>⟨[(0,.val (lstV 6 (l.map Sg.row))),(1,.val (.fn 102 [] [.ptr 1 0 0 0])),(7,.val (.int .i64 l.length)),(8,.val (.int .i64 q.1))],[],[o,o2]⟩)
  (fun q=>q.1<=l.length/\lookS e.nm 0 l=lookS e.nm q.1 (l.drop q.1)) (fun q=>l.length-q.1) (0,0) (by simp) ⟨by simp,by simp⟩ ?_
 rintro⟨k,bb⟩ ⟨hk,hp⟩ ih
 simp only at hk hp ih
 by_cases hlt:k<l.length
 ·have hw:IntKind.i64.wrap ((k:Int)+1)=((k+1:Nat):Int):=by rw[wrap64]<;>omega
  rw[sig_drop hlt]at hp
  have e1:=fun lim=>el lim l[k]
  by_cases h:l[k].nm=e.nm
  ·rw[if_pos h]at hp
   rw[hp]
   rw[decide_eq_true h]at e1
   simp[hlt,hz,e1,Sg.row,sigI]
  ·rw[if_neg h]at hp
   rw[decide_eq_false h]at e1
   simp[hlt,hz,e1,Sg.row,hw]
   exact ih (k+1,0) ⟨by simp;omega,hp⟩ (by simp;omega)
 ·have hkl:k=l.length:=by omega
  have:lookS e.nm 0 l=none:=by rw[hp,hkl,List.drop_length];rfl
  rw[this]
  simp[hlt,sigI]
theorem same_drop {l:List Vd}{r:List E}:∀{k:Nat}(h1:k<l.length)(h2:k<r.length),sameTs (l.drop k) (r.drop k)=(decide (r[k].ty=l[k].ty)&&sameTs (l.drop (k+1)) (r.drop (k+1))):=by
 intro k h1 h2
 rw[List.drop_eq_getElem_cons h1,List.drop_eq_getElem_cons h2]
 rfl
theorem same_len:∀{l:List Vd}{r:List E},sameTs l r=true->l.length=r.length
 |[],[],_=>rfl
 |[],_::_,h=>by cases h
 |_::_,[],h=>by cases h
 |_::l,_::r,h=>by
  simp only[sameTs,Bool.and_eq_true]at h
  simp[same_len h.2]
end K9
namespace K9
open Ax Go Code13 V7 Par Chk
theorem e_kids {wl lim:Nat}{o:AObj}{e:E}{bx:Boxes}:act0 wl lim (.load false 1 false) [.val (.ptr 1 0 0 5)] [o,.rows 0 11 [e.row]] bx=some (.val (esV e.kids),[o,.rows 0 11 [e.row]],bx):=by
 simp[E.row_eq,cut]
theorem E_get {l:List E}{k:Nat}(h:k<l.length):(E.rows l)[k]?=some l[k].row:=by simp[Erows_map,h]
theorem E_get' {l:List E}{k:Nat}(h:k<l.length)(h2:k<(E.rows l).length):(E.rows l)[k]=l[k].row:=by simp[Erows_map]
theorem call_ok (lim:Nat)(c:CK)(e:E)(hs:Small c)(hn:e.kids.length<1000000000):(orcL S).call 0 lim 96 [.ptr 0 0 0 0,.agg e.row] [c.obj]=some (typV (callT c.H e.nm e.kids),[c.obj]):=by
 have en:=fun wl lim st=>none_ok wl lim st
 have ei:=fun lim=>indexS_ok lim c.H.sigs e c.obj hs.S
 have hzS:isSz 6 (lstV 6 (c.H.sigs.map Sg.row))=true:=isSz_lst (by simp[fits,Sg.row])
 have hzE:isSz 11 (esV e.kids)=true:=isSz_E
 have hrE:rowsL (esV e.kids)=E.rows e.kids:=rowsL_lstV
 have hS:=hs.S
 have ek:=fun wl lim bx=>e_kids (wl:=wl) (lim:=lim) (o:=c.obj) (e:=e) (bx:=bx)
 have hsi:=fun wl lim bx=>c_si (wl:=wl) (lim:=lim) (c:=c) (r:=[.rows 0 11 [e.row]]) (bx:=bx)
 have hbox:∀bx,act0 0 1 (.box 11) [.val (.agg e.row)] [c.obj] bx=some (.val (.ptr 1 0 0 0),[c.obj,.rows 0 11 [e.row]],bx):=fun bx=>by rw[E.row_eq];simp
 refine call_run (sf:=s96) rfl rfl rfl ?_
 unfold callT
 generalize hO:AObj.rows 0 11 [e.row]=o at *
 cases h1:lookS e.nm 0 c.H.sigs with
 |none=>
  rw[h1]at ei
  simp only[sigI]at ei
  simp[-a_load,-a_store,-a_box,s96,hbox,hsi,ei,en,typV,W_draw0,noBoxes,paste]
 |some y=>
  obtain⟨i,s⟩:=y
  obtain⟨hi,hg⟩:=sig_at h1
  rw[h1]at ei
  simp only[sigI]at ei
  have hi0:¬((i:Int)<0):=by omega
  have hP:=hs.P _ (List.getElem_mem hi)
  rw[hg]at hP
  have gS:(c.H.sigs.map Sg.row)[i]?=some [.str s.nm,fdsV s.ps,.bool s.has,.int .i64 s.res.b,.int .i64 s.res.r,.int .i64 s.res.d]:=by simp[hi,hg,Sg.row]
  have gS':∀h:i<(c.H.sigs.map Sg.row).length,(c.H.sigs.map Sg.row)[i]=[.str s.nm,fdsV s.ps,.bool s.has,.int .i64 s.res.b,.int .i64 s.res.r,.int .i64 s.res.d]:=fun h=>by simp[hg,Sg.row]
  simp only
  by_cases hl:s.ps.length=e.kids.length
  ·have hl':¬((s.ps.length:Int)≠(e.kids.length:Int)):=by omega
   simp[-a_load,-a_store,-a_box,s96,hbox,hsi,ei,hi0,ek,hzS,hi,gS',a_loadE,hrE,hl,typV,W_draw0,noBoxes,AV.view]
   refine W_loopI s96_l0.eq_1 (fun y:Nat×List AV=>⟨[(0,.val (.ptr 0 0 0 0)),(3,.val (.ptr 1 0 0 0)),(4,.fp 0 0),(7,.val (.int .i64 i)),(44,.val (fdsV s.ps)),(45,.val (.int .i64 e.kids.length)),(46,.val (.int .i64 y.1))],
    [[.int .i64 0,.int .i64 0,.int .i64 0],y.2],[c.obj,o]⟩) (fun y=>y.1<=e.kids.length/\sameTs s.ps e.kids=sameTs (s.ps.drop y.1) (e.kids.drop y.1)) (fun y=>e.kids.length-y.1) (0,[]) rfl ⟨by simp,by simp⟩ ?_
   rintro⟨k,b2⟩ ⟨hk,hp⟩ ih
   simp only at hk hp ih
   by_cases hlt:k<e.kids.length
   ·have hlt2:k<s.ps.length:=by omega
    have hw:IntKind.i64.wrap ((k:Int)+1)=((k+1:Nat):Int):=by rw[wrap64]<;>omega
    rw[same_drop hlt2 hlt]at hp
    have gP:(s.ps.map Vd.row)[k]?=some [.str s.ps[k].nm,.int .i64 s.ps[k].ty.b,.int .i64 s.ps[k].ty.r,.int .i64 s.ps[k].ty.d]:=by simp[hlt2,Vd.row]
    have gP':∀h:k<(s.ps.map Vd.row).length,(s.ps.map Vd.row)[k]=[.str s.ps[k].nm,.int .i64 s.ps[k].ty.b,.int .i64 s.ps[k].ty.r,.int .i64 s.ps[k].ty.d]:=fun h=>by simp[Vd.row]
    have gE:=E_get hlt
    have gE':=fun h2=>E_get' hlt h2
    simp only[E.row_eq]at gE gE'
    by_cases q:e.kids[k].ty=s.ps[k].ty
    ·rw[decide_eq_true q,Bool.true_and]at hp
     have ih':=fun b=>ih (k+1,b) ⟨by simp only;omega,hp⟩ (by simp only;omega)
     simp only at ih'
     rw[q]at gE gE'
     generalize e.kids[k]=x at *
     generalize s.ps[k]=p at *
     simp[-a_load,-a_store,hlt,hlt2,hw,gP',gE',ek,hzE,hrE,a_loadE,W_draw0,noBoxes,paste,AV.view]
     exact ih' _
    ·rw[decide_eq_false q,Bool.false_and]at hp
     generalize e.kids[k]=x at *
     generalize s.ps[k]=p at *
     simp[-a_load,-a_store,hlt,hlt2,gP',gE',ek,hzE,hrE,a_loadE,dU,q,hp,en,W_draw0,noBoxes,paste,AV.view]
   ·have hkl:k=e.kids.length:=by omega
    have:sameTs s.ps e.kids=true:=by rw[hp,hkl,List.drop_length,<-hl,List.drop_length];rfl
    have hsi2:=fun wl lim bx=>c_si (wl:=wl) (lim:=lim) (c:=c) (r:=[o]) (bx:=bx)
    simp[-a_load,-a_store,hlt,this,hsi2,hzS,hi,gS',a_loadE,paste,AV.view]
  ·have hne:sameTs s.ps e.kids=false:=by
    cases h:sameTs s.ps e.kids with
    |false=>rfl
    |true=>exact absurd (same_len h) hl
   have hl':¬((s.ps.length:Int)=(e.kids.length:Int)):=by omega
   rw[hne]
   simp[-a_load,-a_store,-a_box,s96,hbox,hsi,ei,hi0,ek,hzS,hi,gS',a_loadE,hrE,hl,en,typV,W_draw0,noBoxes,paste,AV.view]
end K9
namespace K9
open Ax Go Code13 V7 Par Chk
def TypR (o:Option (T3×Int))(v:AV):Prop:=∃(t:T3)(z:Int),v=.tup [.agg [.int .i64 t.b,.int .i64 t.r,.int .i64 t.d],.int .i64 z,.bool o.isSome]/\∀u r,o=some (u,r)->t=u/\z=r
theorem typR_V (o:Option (T3×Int)):TypR o (typV o):=by
 cases o with
 |none=>exact⟨T0,0,rfl,fun _ _ h=>by cases h⟩
 |some x=>exact⟨x.1,x.2,rfl,fun u r h=>by cases h;exact⟨rfl,rfl⟩⟩
theorem typR_okT (b:Bool)(t:T3):TypR (okT b t) (.tup [.agg [.int .i64 t.b,.int .i64 t.r,.int .i64 t.d],.int .i64 0,.bool b]):=by
 refine⟨t,0,?_,fun u r h=>okT_eq h⟩
 rw[okT_some]
theorem call_TypR {lim f:Nat}{sf:SFunc}{args:List AV}{st:Store}{o:Option (T3×Int)}(hf:S f=some sf)(ha:alone sf args=false)(hl:args.length=sf.nparams)(v:AV)(hv:TypR o v)
  (h:W S (sf.mode.wlOf st.length 0) (sf.mode.limOf st.length lim) sf.results (RetQ sf.results sf.mode st (v,st)) [.code sf.body] .normal (begS sf args st)) :
  ∃v,TypR o v/\(orcL S).call 0 lim f args st=some (v,st):=⟨v,hv,call_run hf ha hl h⟩
theorem typed_ok (lim:Nat)(c:CK)(e:E)(hs:Small c)(hn:e.kids.length<1000000000)(hk:kindsT e.k e.n e.kids.length=true)(hRS:c.H.rs.length=c.H.shapes.length)(hw:∀x∈e.kids,WT c.H.rs.length x.ty) :
  ∃v,TypR (typE c.H c.V e.k e.nm e.on e.od e.kids) v/\(orcL S).call 0 lim 86 [.ptr 0 0 0 0,.agg e.row] [c.obj]=some (v,[c.obj]):=by
 have eN:=fun wl lim st=>number_ok wl lim st
 have eT:=fun wl lim st=>truth_ok wl lim st
 have eV:=fun lim=>variable_ok lim c e.nm [] hs
 have ety:=fun wl lim st=>type_ok wl lim c.H.rs e.on e.od st hs.R
 have erf:=fun wl lim st=>ref_ok wl lim (typeT c.H.rs e.on e.od).1 st
 have hrow:=E.row_eq e
 have hz:isSz 11 (esV e.kids)=true:=isSz_E
 have hsl:isSl (esV e.kids)=true:=isSl_esV
 have hvw:(esV e.kids).view=esV e.kids:=view_esV
 have hrE:rowsL (esV e.kids)=E.rows e.kids:=rowsL_lstV
 have one:∀j,e.k=j->(j=5\/j=9\/j=10\/j=12\/j=13)->∃x,e.kids=[x]:=fun j hj h=>by
  have hlen:e.kids.length=1:=by
   rw[hj]at hk
   rcases h with h|h|h|h|h<;>subst h<;>simpa [kindsT] using hk
  match hh:e.kids,hlen with
  |[x],_=>exact⟨x,rfl⟩
 have two:e.k≠1->e.k≠2->e.k≠3->e.k≠4->e.k≠5->e.k≠7->e.k≠8->e.k≠9->e.k≠10->e.k≠11->e.k≠12->e.k≠13->∃x y,e.kids=[x,y]:=fun h1 h2 h3 h4 h5 h7 h8 h9 h10 h11 h12 h13=>by
  have hlen:e.kids.length=2:=by
   simp[kindsT,h1,h2,h3,h4,h5,h7,h8,h9,h10,h11,h12,h13]at hk
   exact hk.2
  match hh:e.kids,hlen with
  |[x,y],_=>exact⟨x,y,rfl⟩
 have fld:=fun x (h:e.kids=[x]) lim=>field_ok lim c e x h hs (by
  have:=(hw x (by rw[h];exact List.mem_cons_self)).2.2
  rw[hRS]at this
  exact this)
 have cal:=fun lim=>call_ok lim c e hs hn
 have tw:=fun x y (h:e.kids=[x,y]) lim=>two_ok lim c e x y h
 rw[hrow]at fld cal tw
 rw[hrow]
 unfold typE
 by_cases h1:e.k=1
 ·rw[if_pos (.inl h1)]
  rw[h1]
  refine call_TypR (sf:=s86) rfl rfl rfl _ (typR_okT true tI) ?_
  simp[-a_load,-a_store,s86,eN,paste,AV.view]
 by_cases h11:e.k=11
 ·rw[if_pos (.inr h11)]
  rw[h11]
  refine call_TypR (sf:=s86) rfl rfl rfl _ (typR_okT true tI) ?_
  simp[-a_load,-a_store,s86,eN,paste,AV.view]
 rw[if_neg (fun h=>h.elim h1 h11)]
 by_cases h2:e.k=2
 ·rw[if_pos h2,h2]
  refine call_TypR (sf:=s86) rfl rfl rfl _ (typR_okT true tB) ?_
  simp[-a_load,-a_store,s86,eT,paste,AV.view]
 rw[if_neg h2]
 by_cases h3:e.k=3
 ·rw[if_pos h3,h3]
  refine call_TypR (sf:=s86) rfl rfl rfl _ (typR_okT _ _) ?_
  unfold tyV at ety
  generalize typeT c.H.rs e.on e.od=tt at *
  obtain⟨t,b⟩:=tt
  cases b<;>simp[-a_load,-a_store,s86,c_rc,ety,erf,W_draw0,W_drawB,boxOk,noBoxes,paste,AV.view]
 rw[if_neg h3]
 by_cases h4:e.k=4
 ·rw[if_pos h4,h4]
  refine call_TypR (sf:=s86) rfl rfl rfl _ (typR_V _) ?_
  generalize varT c.H c.V e.nm=o at *
  cases o with
  |none=>simp[-a_load,-a_store,s86,eV,varV,typV,paste,AV.view]
  |some x=>simp[-a_load,-a_store,s86,eV,varV,typV,paste,AV.view]
 rw[if_neg h4]
 by_cases h5:e.k=5
 ·rw[if_pos h5]
  obtain⟨x,hx⟩:=one 5 h5 (by simp)
  have f:=fld x hx
  rw[h5]at f ⊢
  have:ty1 e.kids=x.ty:=by rw[hx];rfl
  rw[this]
  refine call_TypR (sf:=s86) rfl rfl rfl _ (typR_V _) ?_
  generalize fieldT c.H x.ty e.nm=o at *
  generalize esV e.kids=kv at *
  cases o with
  |none=>
   simp only[typV]at f
   simp[-a_load,-a_store,s86,f,hsl,hvw,typV,paste,AV.view]
  |some x=>
   simp only[typV]at f
   simp[-a_load,-a_store,s86,f,hsl,hvw,typV,paste,AV.view]
 rw[if_neg h5]
 by_cases h6:e.k=6
 ·rw[if_pos h6]
  obtain⟨x,y,hx⟩:=two h1 h2 h3 h4 h5 (by omega) (by omega) (by omega) (by omega) h11 (by omega) (by omega)
  have a1:ty1 e.kids=x.ty:=by rw[hx];rfl
  have a2:ty2 e.kids=y.ty:=by rw[hx];rfl
  have wx:=hw x (by rw[hx];exact List.mem_cons_self)
  rw[show E.rows e.kids=E.rows [x,y] from by rw[hx]]at hrE
  rw[a1,a2,h6]
  simp only[E.rows,E.row_eq]at hrE
  generalize esV e.kids=kv at *
  have hwr:IntKind.i64.wrap (x.ty.d-1)=x.ty.d-1:=by
   have:=wx.1;have:=wx.2.1
   rw[wrap64]<;>omega
  refine call_TypR (sf:=s86) rfl rfl rfl _ (typR_okT _ _) ?_
  by_cases q:0<x.ty.d
  ·simp[-a_load,-a_store,s86,a_loadE,hz,hsl,hvw,hrE,q,eN,dI,hwr,W_draw0,noBoxes,paste,AV.view]
  ·simp[-a_load,-a_store,s86,a_loadE,hz,hsl,hvw,hrE,q,hwr,W_draw0,noBoxes,paste,AV.view]
 rw[if_neg h6]
 by_cases h7:e.k=7
 ·rw[if_pos h7]
  rw[h7]at cal ⊢
  refine call_TypR (sf:=s86) rfl rfl rfl _ (typR_V _) ?_
  generalize callT c.H e.nm e.kids=o at *
  generalize esV e.kids=kv at *
  cases o with
  |none=>
   simp only[typV]at cal
   simp[-a_load,-a_store,s86,cal,hsl,hvw,typV,paste,AV.view]
  |some x=>
   simp only[typV]at cal
   simp[-a_load,-a_store,s86,cal,hsl,hvw,typV,paste,AV.view]
 rw[if_neg h7]
 by_cases h8:e.k=8
 ·rw[if_pos h8,h8]
  refine call_TypR (sf:=s86) rfl rfl rfl _ (typR_okT _ _) ?_
  unfold tyV at ety
  generalize typeT c.H.rs e.on e.od=tt at *
  obtain⟨t,b⟩:=tt
  cases b with
  |false=>simp[-a_load,-a_store,s86,c_rc,ety,W_draw0,W_drawB,boxOk,noBoxes,paste,AV.view]
  |true=>
   by_cases q:t.b=3
   ·simp[-a_load,-a_store,s86,c_rc,ety,q,W_draw0,W_drawB,boxOk,noBoxes,paste,AV.view]
   ·simp[-a_load,-a_store,s86,c_rc,ety,q,W_draw0,W_drawB,boxOk,noBoxes,paste,AV.view]
 rw[if_neg h8]
 by_cases h9:e.k=9
 ·rw[if_pos h9]
  obtain⟨x,hx⟩:=one 9 h9 (by simp)
  have a1:ty1 e.kids=x.ty:=by rw[hx];rfl
  rw[show E.rows e.kids=E.rows [x] from by rw[hx]]at hrE
  rw[a1,h9]
  simp only[E.rows,E.row_eq]at hrE
  generalize esV e.kids=kv at *
  have wt:=type_wt c.H.rs e.on e.od
  have hwr:IntKind.i64.wrap ((typeT c.H.rs e.on e.od).1.d+1)=(typeT c.H.rs e.on e.od).1.d+1:=by
   have:=wt.1;have:=wt.2.1
   rw[wrap64]<;>omega
  refine call_TypR (sf:=s86) rfl rfl rfl _ (typR_okT _ _) ?_
  unfold tyV at ety
  generalize typeT c.H.rs e.on e.od=tt at *
  obtain⟨t,b⟩:=tt
  cases b with
  |false=>simp[-a_load,-a_store,s86,c_rc,ety,hsl,hwr,W_draw0,W_drawB,boxOk,noBoxes,paste,AV.view]
  |true=>
   by_cases q:t.d<3
   ·simp[-a_load,-a_store,s86,c_rc,ety,a_loadE,hz,hsl,hvw,hrE,q,eN,dI,hwr,W_draw0,W_drawB,boxOk,noBoxes,paste,AV.view]
   ·simp[-a_load,-a_store,s86,c_rc,ety,hsl,q,hwr,W_draw0,W_drawB,boxOk,noBoxes,paste,AV.view]
 rw[if_neg h9]
 by_cases h10:e.k=10
 ·rw[if_pos h10]
  obtain⟨x,hx⟩:=one 10 h10 (by simp)
  have a1:ty1 e.kids=x.ty:=by rw[hx];rfl
  rw[show E.rows e.kids=E.rows [x] from by rw[hx]]at hrE
  rw[a1,h10]
  simp only[E.rows,E.row_eq]at hrE
  generalize esV e.kids=kv at *
  refine call_TypR (sf:=s86) rfl rfl rfl _ (typR_okT _ _) ?_
  simp[-a_load,-a_store,s86,a_loadE,hz,hsl,hvw,hrE,eN,W_draw0,noBoxes,paste,AV.view]
 rw[if_neg h10]
 by_cases h12:e.k=12
 ·rw[if_pos h12]
  obtain⟨x,hx⟩:=one 12 h12 (by simp)
  have a1:ty1 e.kids=x.ty:=by rw[hx];rfl
  rw[show E.rows e.kids=E.rows [x] from by rw[hx]]at hrE
  rw[a1,h12]
  simp only[E.rows,E.row_eq]at hrE
  generalize esV e.kids=kv at *
  refine call_TypR (sf:=s86) rfl rfl rfl _ (typR_okT _ _) ?_
  simp[-a_load,-a_store,s86,a_loadE,hz,hsl,hvw,hrE,eN,dI,W_draw0,noBoxes,paste,AV.view]
 rw[if_neg h12]
 by_cases h13:e.k=13
 ·rw[if_pos h13]
  obtain⟨x,hx⟩:=one 13 h13 (by simp)
  have a1:ty1 e.kids=x.ty:=by rw[hx];rfl
  rw[show E.rows e.kids=E.rows [x] from by rw[hx]]at hrE
  rw[a1,h13]
  simp only[E.rows,E.row_eq]at hrE
  generalize esV e.kids=kv at *
  refine call_TypR (sf:=s86) rfl rfl rfl _ (typR_okT _ _) ?_
  simp[-a_load,-a_store,s86,a_loadE,hz,hsl,hvw,hrE,eN,eT,dB,W_draw0,noBoxes,paste,AV.view]
 rw[if_neg h13]
 obtain⟨x,y,hx⟩:=two h1 h2 h3 h4 h5 h7 h8 h9 h10 h11 h12 h13
 have a1:ty1 e.kids=x.ty:=by rw[hx];rfl
 have a2:ty2 e.kids=y.ty:=by rw[hx];rfl
 rw[a1,a2]
 have t2:=tw x y hx
 generalize esV e.kids=kv at *
 refine call_TypR (sf:=s86) rfl rfl rfl (.tup [.agg [.int .i64 (twoR e.k).b,.int .i64 (twoR e.k).r,.int .i64 (twoR e.k).d],.int .i64 0,.bool (twoT e.k x.ty y.ty).isSome]) ⟨twoR e.k,0,rfl,fun u r h=>two_eq h⟩ ?_
 simp[-a_load,-a_store,s86,h1,h2,h3,h4,h5,h6,h7,h8,h9,h10,h11,h12,h13,t2,hsl,hvw,paste,AV.view]
end K9
namespace K9
open Ax Go Code13 V7 Par Chk
theorem fail_fe {c:CK}{a:Int}:(c.fail a).fe≠0:=by
 unfold CK.fail
 split
 ·show (3:Int)≠0;decide
 ·assumption
theorem fail_2 {c:CK}{a b:Int}:(c.fail a).fail b=c.fail a:=by
 have h:=fail_fe (c:=c) (a:=a)
 generalize c.fail a=d at *
 unfold CK.fail
 rw[if_neg h]
def OkX (c:CK)(e:E):Prop:=match ckE c.H c.V e with
 |.ok y=>∀lim,(orcL S).call 0 lim 74 [.ptr 0 0 0 0,.agg e.row] [c.obj]=some (.agg y.row,[c.obj])
 |.error a=>∀lim,∃y:E,(orcL S).call 0 lim 74 [.ptr 0 0 0 0,.agg e.row] [c.obj]=some (.agg y.row,[(c.fail a).obj])
def valE (c:CK)(e:E):Except Int E:=match ckE c.H c.V e with
 |.error x=>.error x
 |.ok y=>if y.ty=T0 then .error y.a else .ok y
def OkW (c:CK)(e:E):Prop:=match valE c e with
 |.ok y=>∀lim,(orcL S).call 0 lim 87 [.ptr 0 0 0 0,.agg e.row] [c.obj]=some (.agg y.row,[c.obj])
 |.error a=>∀lim,∃y:E,(orcL S).call 0 lim 87 [.ptr 0 0 0 0,.agg e.row] [c.obj]=some (.agg y.row,[(c.fail a).obj])
theorem value_ok (c:CK)(e:E)(h:OkX c e):OkW c e:=by
 unfold OkX at h
 unfold OkW valE
 have en:=fun wl lim st=>none_ok wl lim st
 cases hc:ckE c.H c.V e with
 |error a=>
  rw[hc]at h
  simp only at h ⊢
  obtain⟨y,e1⟩:=h 1
  refine fun lim=>⟨y,?_⟩
  have ef:=fun lim=>fail_ok lim (c.fail a) y.a []
  rw[fail_2]at ef
  rw[E.row_eq e]at e1 ⊢
  rw[E.row_eq y]at e1 ⊢
  generalize (c.fail a).obj=o at *
  refine call_run (sf:=s87) rfl rfl rfl ?_
  by_cases q:y.ty=T0
  ·simp[-a_load,-a_store,s87,e1,en,q,ef,paste,AV.view,W_draw0,noBoxes]
  ·simp[-a_load,-a_store,s87,e1,en,d0,q,paste,AV.view,W_draw0,noBoxes]
 |ok y=>
  rw[hc]at h
  simp only at h ⊢
  by_cases q:y.ty=T0
  ·rw[if_pos q]
   refine fun lim=>⟨y,?_⟩
   have ef:=fun lim=>fail_ok lim c y.a []
   rw[E.row_eq e]at h ⊢
   rw[E.row_eq y]at h ⊢
   generalize (c.fail y.a).obj=o at *
   refine call_run (sf:=s87) rfl rfl rfl ?_
   simp[-a_load,-a_store,s87,h,en,q,ef,paste,AV.view,W_draw0,noBoxes]
  ·rw[if_neg q]
   intro lim
   rw[E.row_eq e]at h ⊢
   rw[E.row_eq y]at h ⊢
   refine call_run (sf:=s87) rfl rfl rfl ?_
   simp[-a_load,-a_store,s87,h,en,d0,q,paste,AV.view,W_draw0,noBoxes]
theorem ckV_val {c:CK}{e:E}{l:List E}:ckV c.H c.V (e::l)=match valE c e with
  |.error x=>.error x
  |.ok y=>match ckV c.H c.V l with
   |.error x=>.error x
   |.ok ys=>.ok (y::ys):=by
 conv=>lhs;unfold ckV
 unfold valE
 split
 ·simp_all
 ·rename_i y h
  rw[h]
  simp only
  split<;>rfl
def preV (ys:List E)(r:Except Int (List E)):Except Int (List E):=match r with
 |.error x=>.error x
 |.ok zs=>.ok (ys++zs)
def ExQ (rs:List SRes)(m:Ax.Mode)(st:Store)(P:AV->Store->Prop)(x:Ex)(s:St):Prop:=∃r,RetQ rs m st r x s/\P r.1 r.2
theorem call_ex {S:Nat->Option SFunc}{wl lim f:Nat}{sf:SFunc}(hf:S f=some sf){args:List AV}(ha:alone sf args=false)(hl:args.length=sf.nparams){st:Store}{P:AV->Store->Prop}
  (h:W S (sf.mode.wlOf st.length wl) (sf.mode.limOf st.length lim) sf.results (ExQ sf.results sf.mode st P) [.code sf.body] .normal (begS sf args st)) :
  ∃v st',(orcL S).call wl lim f args st=some (v,st')/\P v st':=by
 obtain⟨x',s',h1,r,h2,h3⟩:=h
 exact⟨r.1,r.2,call_run hf ha hl ⟨x',s',h1,h2⟩,h3⟩
@[simp] theorem ExQ_ret {rs:List SRes} {st:Store} {P:AV->Store->Prop} {v:AV} {s:St}:ExQ rs Ax.Mode.scp st P (.ret v) s↔v.isPure=true/\P v (s.st.take st.length):=by
 simp only[ExQ,RetQ_ret,Ax.Mode.fin]
 constructor
 ·rintro⟨r,h1,h2⟩
  split at h1
  ·rename_i hp
   cases h1
   exact⟨hp,h2⟩
  ·cases h1
 ·rintro⟨h1,h2⟩
  exact⟨(v,s.st.take st.length),by rw[if_pos h1],h2⟩
@[simp] theorem ExQ_end {rs:List SRes} {st:Store} {P:AV->Store->Prop} {s:St}:ExQ rs Ax.Mode.scp st P .normal s↔∃v,resV s rs=some v/\v.isPure=true/\P v (s.st.take st.length):=by
 simp only[ExQ,RetQ_end,Ax.Mode.fin]
 constructor
 ·rintro⟨r,⟨v,h0,h1⟩,h2⟩
  split at h1
  ·rename_i hp
   cases h1
   exact⟨v,h0,hp,h2⟩
  ·cases h1
 ·rintro⟨v,h0,h1,h2⟩
  exact⟨(v,s.st.take st.length),⟨v,h0,by rw[if_pos h1]⟩,h2⟩
theorem pre_drop {c:CK}{l:List E}{ys:List E}{k:Nat}(h:k<l.length):preV ys (ckV c.H c.V (l.drop k))=match valE c l[k] with
  |.error x=>.error x
  |.ok y=>preV (ys++[y]) (ckV c.H c.V (l.drop (k+1))):=by
 rw[List.drop_eq_getElem_cons h,ckV_val]
 split
 ·rfl
 ·split
  ·rename_i h1;rw[h1];rfl
  ·rename_i h1;rw[h1];simp[preV]
theorem values_ok (c:CK)(l:List E)(hf:c.fe=0)(hn:l.length<1000000000)(hl:∀e∈l,OkX c e):match ckV c.H c.V l with
  |.ok ys=>∀lim,(orcL S).call 0 lim 75 [.ptr 0 0 0 0,esV l] [c.obj]=some (mkL 11 (E.rows ys),[c.obj])
  |.error a=>∀lim,∃v,isSl v=true/\(orcL S).call 0 lim 75 [.ptr 0 0 0 0,esV l] [c.obj]=some (v,[(c.fail a).obj]):=by
 have hz:isSz 11 (esV l)=true:=isSz_E
 have hsl:isSl (esV l)=true:=isSl_esV
 have hvw:(esV l).view=esV l:=view_esV
 have hrE:rowsL (esV l)=E.rows l:=rowsL_lstV
 have eok:=fun lim=>failed_ok lim c []
 rw[decide_eq_true hf]at eok
 have hap:∀(ys:List E) (y:E),ys.length<1000000000->appV 11 120 (mkL 11 (E.rows ys)) [y.row]=some (mkL 11 (E.rows (ys++[y]))):=fun ys y h=>by
  rw[appV_mk (by simp[fits,E.row_eq]) (by simp[room];omega)]
  simp[Erows_map]
 cases hR:ckV c.H c.V l with
 |ok zs=>
  intro lim
  refine call_run (sf:=s75) rfl rfl rfl ?_
  generalize esV l=lv at *
  simp[-a_load,-a_store,s75,hsl,hvw,hrE]
  refine W_loopI s75_l0.eq_1 (fun x:Nat×List E×List AV=>⟨[(0,.val (.ptr 0 0 0 0)),(5,.val (mkL 11 (E.rows x.2.1))),(8,.val lv),(9,.val (.int .i64 l.length)),(10,.val (.int .i64 x.1))],[x.2.2],[c.obj]⟩)
   (fun x=>x.1<=l.length/\x.2.1.length=x.1/\preV x.2.1 (ckV c.H c.V (l.drop x.1))=.ok zs) (fun x=>l.length-x.1) (0,[],[]) rfl ⟨by simp,rfl,by simp[preV,hR]⟩ ?_
  rintro⟨k,ys,b⟩ ⟨hk,hy,hp⟩ ih
  simp only at hk hy hp ih
  by_cases hlt:k<l.length
  ·have hw:IntKind.i64.wrap ((k:Int)+1)=((k+1:Nat):Int):=by rw[wrap64]<;>omega
   have hv:=value_ok c l[k] (hl _ (List.getElem_mem hlt))
   unfold OkW at hv
   rw[pre_drop hlt]at hp
   have gE:=E_get hlt
   have gE':=fun h2=>E_get' hlt h2
   cases hx:valE c l[k] with
   |error a=>rw[hx]at hp;cases hp
   |ok y=>
    rw[hx]at hp hv
    simp only at hp hv
    have ap:=hap ys y (by omega)
    have ih':=fun b=>ih (k+1,ys++[y],b) ⟨by simp only;omega,by simp[hy],hp⟩ (by simp only;omega)
    simp only at ih'
    generalize mkL 11 (E.rows (ys++[y]))=R at *
    rw[E.row_eq l[k]]at hv gE
    simp only[E.row_eq l[k]]at gE'
    rw[E.row_eq y]at hv ap
    generalize l[k]=x at *
    simp[-a_load,-a_store,a_loadE,hlt,hw,hz,hrE,gE',eok,hv,ap,paste,AV.view]
    exact ih' _
  ·have hkl:k=l.length:=by omega
   have:ys=zs:=by
    rw[hkl,List.drop_length]at hp
    simpa [ckV,preV] using hp
   subst this
   simp[-a_load,-a_store,hlt]
 |error a=>
  intro lim
  have hfe:=fail_fe (c:=c) (a:=a)
  have eok2:=fun lim=>failed_ok lim (c.fail a) []
  rw[decide_eq_false hfe]at eok2
  obtain⟨v,st',h1,h2,h3⟩:∃v st',(orcL S).call 0 lim 75 [.ptr 0 0 0 0,esV l] [c.obj]=some (v,st')/\isSl v=true/\st'=[(c.fail a).obj]:=by
   refine call_ex (sf:=s75) rfl rfl rfl ?_
   generalize esV l=lv at *
   simp[-a_load,-a_store,s75,hsl,hvw,hrE]
   refine W_loopI s75_l0.eq_1 (fun x:Nat×List E×CK×List AV=>⟨[(0,.val (.ptr 0 0 0 0)),(5,.val (mkL 11 (E.rows x.2.1))),(8,.val lv),(9,.val (.int .i64 l.length)),(10,.val (.int .i64 x.1))],[x.2.2.2],[x.2.2.1.obj]⟩)
    (fun x=>x.1<=l.length/\x.2.1.length=x.1/\(x.2.2.1=c/\preV x.2.1 (ckV c.H c.V (l.drop x.1))=.error a\/x.2.2.1=c.fail a)) (fun x=>l.length-x.1) (0,[],c,[]) rfl ⟨by simp,rfl,.inl ⟨rfl,by simp[preV,hR]⟩⟩ ?_
   rintro⟨k,ys,d,b⟩ ⟨hk,hy,hp⟩ ih
   simp only at hk hy hp ih
   by_cases hlt:k<l.length
   ·have hw:IntKind.i64.wrap ((k:Int)+1)=((k+1:Nat):Int):=by rw[wrap64]<;>omega
    have gE:=E_get hlt
    have gE':=fun h2=>E_get' hlt h2
    rcases hp with⟨hd,hp⟩|hd
    ·subst hd
     have hv:=value_ok d l[k] (hl _ (List.getElem_mem hlt))
     unfold OkW at hv
     rw[pre_drop hlt]at hp
     cases hx:valE d l[k] with
     |error a'=>
      rw[hx]at hp hv
      simp only at hp hv
      cases hp
      obtain⟨y,hv⟩:=hv 1
      have ap:=hap ys y (by omega)
      have ih':=fun b=>ih (k+1,ys++[y],d.fail a,b) ⟨by simp only;omega,by simp[hy],.inr rfl⟩ (by simp only;omega)
      simp only at ih'
      generalize mkL 11 (E.rows (ys++[y]))=R at *
      rw[E.row_eq l[k]]at hv gE
      simp only[E.row_eq l[k]]at gE'
      rw[E.row_eq y]at hv ap
      generalize l[k]=x at *
      simp[-a_load,-a_store,a_loadE,hlt,hw,hz,hrE,gE',eok,hv,ap,paste,AV.view]
      exact ih' _
     |ok y=>
      rw[hx]at hp hv
      simp only at hp hv
      have ap:=hap ys y (by omega)
      have ih':=fun b=>ih (k+1,ys++[y],d,b) ⟨by simp only;omega,by simp[hy],.inl ⟨rfl,hp⟩⟩ (by simp only;omega)
      simp only at ih'
      generalize mkL 11 (E.rows (ys++[y]))=R at *
      rw[E.row_eq l[k]]at hv gE
      simp only[E.row_eq l[k]]at gE'
      rw[E.row_eq y]at hv ap
      generalize l[k]=x at *
      simp[-a_load,-a_store,a_loadE,hlt,hw,hz,hrE,gE',eok,hv,ap,paste,AV.view]
      exact ih' _
    ·subst hd
     simp only[E.row_eq l[k]]at gE'
     rw[E.row_eq l[k]]at gE
     generalize l[k]=x at *
     simp[-a_load,-a_store,a_loadE,hlt,hz,hrE,gE',eok2,paste,AV.view]
   ·have hkl:k=l.length:=by omega
    rcases hp with⟨hd,hp⟩|hd
    ·rw[hkl,List.drop_length]at hp
     simp[ckV,preV]at hp
    ·subst hd
     simp[-a_load,-a_store,hlt]
  rw[h3]at h1
  exact⟨v,h2,h1⟩
end K9
namespace K9
open Ax Go Code13 V7 Par Chk
structure Way (c:CK):Prop where
 s:Small c
 H:c.H.ok
 V:∀f∈c.V,WT c.H.rs.length f.ty
def E0:E:=.mk 0 0 [] [] 0 [] 0 T0 0
theorem expr_ok (c:CK)(hf:c.fe=0)(hw:Way c)(e:E):E.sz e<1000000000->OkX c e:=by
 induction e using E.ind with
 |_ e ih=>
  intro hsz
  have hks:=E.sz_kids e
  have hkl:=E.szs_len e.kids
  have hval:=values_ok c e.kids hf (by omega) fun x hx=>ih x hx (by have:=E.szs_mem hx;omega)
  have hknd:=fun wl lim st=>kinds_ok wl lim e st
  have hkept:=fun wl lim st=>kept_ok wl lim e st
  have efl:=fun lim=>fail_ok lim c e.a []
  have eok:=fun lim=>failed_ok lim c []
  rw[decide_eq_true hf]at eok
  have hce:ckE c.H c.V e=if kindsT e.k e.n e.kids.length then
    match ckV c.H c.V e.kids with
    |.error x=>.error x
    |.ok ks=>match typE c.H c.V e.k e.nm e.on e.od ks with
     |none=>.error e.a
     |some (t,r)=>.ok (.mk e.k (keptN e.k e.n) (keptNm e.k e.nm) (keptOn e.k e.on) (keptOd e.k e.od) ks e.a t r)
    else .error e.a:=by
   obtain⟨k,n,nm,on,od,kids,a,ty,ref⟩:=e
   conv=>lhs;unfold ckE
   rfl
  unfold OkX
  rw[hce]
  have hr0:E0.row=[.int .i64 0,.int .i64 0,.str [],.str [],.int .i64 0,.nilSl,.int .i64 0,.int .i64 0,.int .i64 0,.int .i64 0,.int .i64 0]:=by simp[E0,E.row,E.rows]
  have hkv:isSl (esV e.kids)=true:=isSl_esV
  cases hk:kindsT e.k e.n e.kids.length with
  |false=>
   simp only[Bool.false_eq_true,if_false]
   intro lim
   refine⟨E0,?_⟩
   rw[hk]at hknd
   rw[hr0]
   rw[E.row_eq e]at hknd ⊢
   generalize (c.fail e.a).obj=o at *
   refine call_run (sf:=s74) rfl rfl rfl ?_
   simp[-a_load,-a_store,s74,hknd,efl,paste,AV.view,AV.isPure,AV.allPure]
  |true=>
   simp only[if_true]
   rw[hk]at hknd
   cases hv:ckV c.H c.V e.kids with
   |error a=>
    rw[hv]at hval
    simp only at hval ⊢
    intro lim
    refine⟨E0,?_⟩
    obtain⟨v,hsl,ev⟩:=hval 1
    have hvc:=isCell_sl hsl
    have hvp:=pure_sl hsl
    have eok2:=fun lim=>failed_ok lim (c.fail a) []
    rw[decide_eq_false fail_fe]at eok2
    rw[hr0]
    rw[E.row_eq e]at hknd hkept ⊢
    generalize (c.fail a).obj=o at *
    refine call_run (sf:=s74) rfl rfl rfl ?_
    simp[-a_load,-a_store,s74,hknd,hkept,ev,hsl,eok2,paste,AV.view,AV.isPure,AV.allPure]
   |ok ks=>
    rw[hv]at hval
    simp only at hval ⊢
    obtain⟨X,hX⟩:∃X:E,X=.mk e.k (keptN e.k e.n) (keptNm e.k e.nm) (keptOn e.k e.on) (keptOd e.k e.od) ks e.a T0 0:=⟨_,rfl⟩
    have hXr:X.row=[.int .i64 e.k,.int .i64 (keptN e.k e.n),.str (keptNm e.k e.nm),.str (keptOn e.k e.on),.int .i64 (keptOd e.k e.od),esV ks,.int .i64 e.a,.int .i64 0,.int .i64 0,.int .i64 0,.int .i64 0]:=by rw[hX];simp[E.row,esV]
    have hkn:kindsT X.k X.n X.kids.length=true:=by
     rw[hX]
     simp only[E.k,E.n,E.kids]
     rw[ckV_len hv]
     exact kinds_kept hk
    have hwt:=ckV_mem hv fun x _ y hy=>ckE_wt hw.H hw.V x y hy
    obtain⟨tv,⟨t,z,rfl,htr⟩,etv⟩:=typed_ok 1 c X hw.s (by rw[hX];simp only[E.kids];rw[ckV_len hv];omega) hkn hw.H.rs (by rw[hX];exact hwt)
    have htyp:typE c.H c.V X.k X.nm X.on X.od X.kids=typE c.H c.V e.k e.nm e.on e.od ks:=by rw[hX];exact typ_kept
    rw[htyp]at htr etv
    rw[hXr]at etv
    have hsl:isSl (mkL 11 (E.rows ks))=true:=isSl_mk
    have hvv:(mkL 11 (E.rows ks)).view=esV ks:=rfl
    have hkc:isSl (esV ks)=true:=isSl_esV
    generalize mkL 11 (E.rows ks)=mv at *
    have hvc:=isCell_sl hsl
    have hvp:=pure_sl hsl
    cases hT:typE c.H c.V e.k e.nm e.on e.od ks with
    |none=>
     simp only
     intro lim
     refine⟨.mk e.k (keptN e.k e.n) (keptNm e.k e.nm) (keptOn e.k e.on) (keptOd e.k e.od) ks e.a t z,?_⟩
     rw[hT]at etv
     simp only[E.row,Option.isSome_none]at etv ⊢
     rw[E.row_eq e]at hknd hkept ⊢
     have hq:lstV 11 (E.rows ks)=esV ks:=rfl
     rw[hq]
     generalize esV ks=kv at *
     generalize (c.fail e.a).obj=o at *
     refine call_run (sf:=s74) rfl rfl rfl ?_
     simp[-a_load,-a_store,s74,hknd,hkept,hval,hvv,hsl,hkc,eok,etv,efl,paste,AV.view,AV.isPure,AV.allPure]
    |some y=>
     obtain⟨u,r⟩:=y
     obtain⟨h1,h2⟩:=htr u r hT
     subst h1 h2
     simp only
     intro lim
     rw[hT]at etv
     simp only[E.row,Option.isSome_some]at etv ⊢
     rw[E.row_eq e]at hknd hkept ⊢
     have hq:lstV 11 (E.rows ks)=esV ks:=rfl
     rw[hq]
     generalize esV ks=kv at *
     refine call_run (sf:=s74) rfl rfl rfl ?_
     simp[-a_load,-a_store,s74,hknd,hkept,hval,hvv,hsl,hkc,eok,etv,paste,AV.view,AV.isPure,AV.allPure]
end K9
