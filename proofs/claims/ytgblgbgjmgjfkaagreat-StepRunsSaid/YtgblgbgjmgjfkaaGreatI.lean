/-
  Programs in codes, as those who run see them.
-/
import Derived.Test.YtgblgbgjmgjfkaaGreatA6
import Derived.Test.YtgblgbgjmgjfkaaGreatCode2

set_option maxRecDepth 100000
set_option maxHeartbeats 4000000
namespace IrV
open Ax Go
def notOwn:AV->Bool
 |.own _ _=>false
 |_=>true
theorem view_notOwn{v:AV}(h:notOwn v=true)(hs:isSl v=true):v.view=v:=by cases v<;>simp_all [notOwn,isSl,AV.view]
@[simp]theorem notOwn_view(v:AV):notOwn v.view=true:=by cases v<;>simp[notOwn,AV.view]
def isRows(sz:Nat)(p:List AV->Bool)(v:AV):Bool:=notOwn v&&isSz sz v&&(rowsL v).all p
theorem isRows_sz{sz:Nat}{p:List AV->Bool}{v:AV}(h:isRows sz p v=true):isSz sz v=true:=by simp only[isRows,Bool.and_eq_true]at h;exact h.1.2
theorem isRows_all{sz:Nat}{p:List AV->Bool}{v:AV}(h:isRows sz p v=true):∀r∈rowsL v,p r=true:=by simp only[isRows,Bool.and_eq_true,List.all_eq_true]at h;exact h.2
theorem isRows_vw{sz:Nat}{p:List AV->Bool}{v:AV}(h:isRows sz p v=true):v.view=v:=by
 have h2:=isSl_sz (isRows_sz h)
 simp only[isRows,Bool.and_eq_true]at h
 exact view_notOwn h.1.1 h2
theorem rows_map{α:Type}{sz:Nat}{p:List AV->Bool}{d:List AV->α}{e:α->List AV}{v:AV}(h:isRows sz p v=true)(he:∀r,p r=true->r=e (d r)):rowsL v=((rowsL v).map d).map e:=by
 rw[List.map_map]
 conv=>lhs;rw[<-List.map_id (rowsL v)]
 exact List.map_congr_left fun r hr=>he r (isRows_all h r hr)
def inR(n:Int):Bool:=decide (-9223372036854775808<=n)&&decide (n<=9223372036854775807)
structure T3 where
 b:Int
 r:Int
 d:Int
 deriving DecidableEq
abbrev T0:T3:=⟨0,0,0⟩
@[simp]def T3.cells(t:T3):List AV:=[.int .i64 t.b,.int .i64 t.r,.int .i64 t.d]
def tyRow(r:List AV):Bool:=match r with | [.int .i64 a,.int .i64 b,.int .i64 c]=>inR a&&inR b&&inR c|_=>false
def dT(r:List AV):T3:=match r with | [.int .i64 a,.int .i64 b,.int .i64 c]=>⟨a,b,c⟩|_=>T0
theorem tyRow_eq(r:List AV)(h:tyRow r=true):r=(dT r).cells:=by
 unfold tyRow at h
 split at h
 ·rfl
 ·cases h
def isTs(v:AV):Bool:=isRows 3 tyRow v
def dTs(v:AV):List T3:=(rowsL v).map dT
theorem rowsL_T{v:AV}(h:isTs v=true):rowsL v=(dTs v).map T3.cells:=rows_map h tyRow_eq
theorem isTs_vw{v:AV}(h:isTs v=true):v.view=v:=isRows_vw h
@[simp]theorem dTs_view(v:AV):dTs v.view=dTs v:=by simp[dTs]
@[simp]theorem isSz_T{v:AV}(h:isTs v=true):isSz 3 v=true:=isRows_sz h
@[simp]theorem isSl_T{v:AV}(h:isTs v=true):isSl v=true:=isSl_sz (isSz_T h)
structure FD where
 name:List UInt8
 t:T3
def FD.cells(f:FD):List AV:=[.str f.name,.int .i64 f.t.b,.int .i64 f.t.r,.int .i64 f.t.d]
def fdRow(r:List AV):Bool:=match r with | [.str _,.int .i64 a,.int .i64 b,.int .i64 c]=>inR a&&inR b&&inR c|_=>false
def dF(r:List AV):FD:=match r with | [.str s,.int .i64 a,.int .i64 b,.int .i64 c]=>⟨s,a,b,c⟩|_=>⟨[],T0⟩
theorem fdRow_eq(r:List AV)(h:fdRow r=true):r=(dF r).cells:=by
 unfold fdRow at h
 split at h
 ·rfl
 ·cases h
def isFs(v:AV):Bool:=isRows 4 fdRow v
def dFs(v:AV):List FD:=(rowsL v).map dF
theorem rowsL_F{v:AV}(h:isFs v=true):rowsL v=(dFs v).map FD.cells:=rows_map h fdRow_eq
theorem isFs_vw{v:AV}(h:isFs v=true):v.view=v:=isRows_vw h
@[simp]theorem dFs_view(v:AV):dFs v.view=dFs v:=by simp[dFs]
@[simp]theorem isSz_F{v:AV}(h:isFs v=true):isSz 4 v=true:=isRows_sz h
@[simp]theorem isSl_F{v:AV}(h:isFs v=true):isSl v=true:=isSl_sz (isSz_F h)
structure RD where
 name:List UInt8
 fields:AV
def RD.cells(r:RD):List AV:=[.str r.name,r.fields]
def rdRow(r:List AV):Bool:=match r with | [.str _,f]=>isFs f|_=>false
def dR(r:List AV):RD:=match r with | [.str s,f]=>⟨s,f⟩|_=>⟨[],.nilSl⟩
theorem rdRow_eq(r:List AV)(h:rdRow r=true):r=(dR r).cells:=by
 unfold rdRow at h
 split at h
 ·rfl
 ·cases h
def isRs(v:AV):Bool:=isRows 2 rdRow v
def dRs(v:AV):List RD:=(rowsL v).map dR
theorem rowsL_R{v:AV}(h:isRs v=true):rowsL v=(dRs v).map RD.cells:=rows_map h rdRow_eq
theorem isRs_get{v:AV}(h:isRs v=true):∀r∈dRs v,isFs r.fields=true:=by
 intro r hr
 obtain⟨x,hx,rfl⟩:=List.mem_map.1 hr
 have:=isRows_all h x hx
 unfold rdRow at this
 unfold dR
 split at this
 ·exact this
 ·cases this
theorem isRs_vw{v:AV}(h:isRs v=true):v.view=v:=isRows_vw h
@[simp]theorem dRs_view(v:AV):dRs v.view=dRs v:=by simp[dRs]
@[simp]theorem isSz_R{v:AV}(h:isRs v=true):isSz 2 v=true:=isRows_sz h
@[simp]theorem isSl_R{v:AV}(h:isRs v=true):isSl v=true:=isSl_sz (isSz_R h)
structure ID where
 op:Int
 a:Int
 b:Int
 c:Int
 n:Int
 args:AV
def ID.cells(i:ID):List AV:=[.int .i64 i.op,.int .i64 i.a,.int .i64 i.b,.int .i64 i.c,.int .i64 i.n,i.args]
def idRow(r:List AV):Bool:=match r with | [.int .i64 _,.int .i64 _,.int .i64 _,.int .i64 _,.int .i64 _,v]=>notOwn v&&isI v|_=>false
def dN(r:List AV):ID:=match r with | [.int .i64 a,.int .i64 b,.int .i64 c,.int .i64 d,.int .i64 e,v]=>⟨a,b,c,d,e,v⟩|_=>⟨0,0,0,0,0,.nilSl⟩
theorem idRow_eq(r:List AV)(h:idRow r=true):r=(dN r).cells:=by
 unfold idRow at h
 split at h
 ·rfl
 ·cases h
def isNs(v:AV):Bool:=isRows 6 idRow v
def dNs(v:AV):List ID:=(rowsL v).map dN
theorem rowsL_N{v:AV}(h:isNs v=true):rowsL v=(dNs v).map ID.cells:=rows_map h idRow_eq
theorem isNs_get{v:AV}(h:isNs v=true):∀r∈dNs v,notOwn r.args=true/\isI r.args=true:=by
 intro r hr
 obtain⟨x,hx,rfl⟩:=List.mem_map.1 hr
 have:=isRows_all h x hx
 unfold idRow at this
 unfold dN
 split at this
 ·simp only[Bool.and_eq_true]at this;exact⟨this.1,this.2⟩
 ·cases this
theorem isNs_vw{v:AV}(h:isNs v=true):v.view=v:=isRows_vw h
@[simp]theorem dNs_view(v:AV):dNs v.view=dNs v:=by simp[dNs]
@[simp]theorem isSz_N{v:AV}(h:isNs v=true):isSz 6 v=true:=isRows_sz h
@[simp]theorem isSl_N{v:AV}(h:isNs v=true):isSl v=true:=isSl_sz (isSz_N h)
structure CD where
 params:Int
 vars:AV
 has:Bool
 res:T3
 ins:AV
def CD.cells(c:CD):List AV:=[.int .i64 c.params,c.vars,.bool c.has,.int .i64 c.res.b,.int .i64 c.res.r,.int .i64 c.res.d,c.ins]
def cdRow(r:List AV):Bool:=match r with | [.int .i64 p,v,.bool _,.int .i64 a,.int .i64 b,.int .i64 c,i]=>inR p&&inR a&&inR b&&inR c&&isTs v&&isNs i|_=>false
def dC(r:List AV):CD:=match r with | [.int .i64 p,v,.bool h,.int .i64 a,.int .i64 b,.int .i64 c,i]=>⟨p,v,h,⟨a,b,c⟩,i⟩|_=>⟨0,.nilSl,false,T0,.nilSl⟩
theorem cdRow_eq(r:List AV)(h:cdRow r=true):r=(dC r).cells:=by
 unfold cdRow at h
 split at h
 ·rfl
 ·cases h
def isCs(v:AV):Bool:=isRows 7 cdRow v
def dCs(v:AV):List CD:=(rowsL v).map dC
theorem rowsL_C{v:AV}(h:isCs v=true):rowsL v=(dCs v).map CD.cells:=rows_map h cdRow_eq
theorem isCs_get{v:AV}(h:isCs v=true):∀r∈dCs v,isTs r.vars=true/\isNs r.ins=true:=by
 intro r hr
 obtain⟨x,hx,rfl⟩:=List.mem_map.1 hr
 have:=isRows_all h x hx
 unfold cdRow at this
 unfold dC
 split at this
 ·simp only[Bool.and_eq_true]at this;exact⟨this.1.2,this.2⟩
 ·cases this
theorem isCs_vw{v:AV}(h:isCs v=true):v.view=v:=isRows_vw h
@[simp]theorem dCs_view(v:AV):dCs v.view=dCs v:=by simp[dCs]
@[simp]theorem isSz_C{v:AV}(h:isCs v=true):isSz 7 v=true:=isRows_sz h
@[simp]theorem isSl_C{v:AV}(h:isCs v=true):isSl v=true:=isSl_sz (isSz_C h)
structure SD where
 fn:Int
 t:T3
def SD.cells(s:SD):List AV:=[.int .i64 s.fn,.int .i64 s.t.b,.int .i64 s.t.r,.int .i64 s.t.d]
def sdRow(r:List AV):Bool:=match r with | [.int .i64 f,.int .i64 a,.int .i64 b,.int .i64 c]=>inR f&&inR a&&inR b&&inR c|_=>false
def dS(r:List AV):SD:=match r with | [.int .i64 f,.int .i64 a,.int .i64 b,.int .i64 c]=>⟨f,a,b,c⟩|_=>⟨0,T0⟩
theorem sdRow_eq(r:List AV)(h:sdRow r=true):r=(dS r).cells:=by
 unfold sdRow at h
 split at h
 ·rfl
 ·cases h
def isSs(v:AV):Bool:=isRows 4 sdRow v
def dSs(v:AV):List SD:=(rowsL v).map dS
theorem rowsL_S{v:AV}(h:isSs v=true):rowsL v=(dSs v).map SD.cells:=rows_map h sdRow_eq
theorem isSs_vw{v:AV}(h:isSs v=true):v.view=v:=isRows_vw h
@[simp]theorem dSs_view(v:AV):dSs v.view=dSs v:=by simp[dSs]
@[simp]theorem isSz_S{v:AV}(h:isSs v=true):isSz 4 v=true:=isRows_sz h
@[simp]theorem isSl_S{v:AV}(h:isSs v=true):isSl v=true:=isSl_sz (isSz_S h)
structure XD where
 recs:AV
 globals:AV
 codes:AV
 sites:AV
 main:Int
def XD.cells(x:XD):List AV:=[x.recs,x.globals,x.codes,x.sites,.int .i64 x.main]
structure XD.ok (x:XD):Prop where
 recs:isRs x.recs=true
 globals:isTs x.globals=true
 codes:isCs x.codes=true
 sites:isSs x.sites=true
theorem inR_T{v:AV}(h:isTs v=true):∀t∈dTs v,inR t.b=true/\inR t.r=true/\inR t.d=true:=by
 intro r hr
 obtain⟨x,hx,rfl⟩:=List.mem_map.1 hr
 have:=isRows_all h x hx
 unfold tyRow at this
 unfold dT
 split at this
 ·simp only[Bool.and_eq_true]at this;exact⟨this.1.1,this.1.2,this.2⟩
 ·cases this
def ofT(vars:List T3)(n:Int):T3:=if 0<=n then vars.getD n.toNat T0 else T0
def isT(vars:List T3)(t:T3)(l:List Int):Bool:=l.all (fun n=>decide (ofT vars n=t))&&decide (t≠T0)
def tInt:T3:=⟨1,0,0⟩
def tBool:T3:=⟨2,0,0⟩
end IrV
namespace U12
open Ax Go Code14z IrV
theorem none_ok(wl lim:Nat)(st:Store):(orcL S).call wl lim 140 [] st=some (.agg T0.cells,st):=by
 refine call_pure (sf:=s140) rfl rfl rfl rfl rfl ?_
 simp[s140]
def vw(x:XD)(f:Int)(c:CD)(i:ID):AV:=.agg [x.recs,x.globals,x.codes,x.sites,.int .i64 x.main,.int .i64 f,
 .int .i64 c.params,c.vars,.bool c.has,.int .i64 c.res.b,.int .i64 c.res.r,.int .i64 c.res.d,c.ins,
 .int .i64 i.op,.int .i64 i.a,.int .i64 i.b,.int .i64 i.c,.int .i64 i.n,i.args]
structure VW (x:XD)(c:CD)(i:ID):Prop where
 x:x.ok
 vars:isTs c.vars=true
 ins:isNs c.ins=true
 args:isI i.args=true
 nargs:notOwn i.args=true
theorem VW.pure{x:XD}{f:Int}{c:CD}{i:ID}(h:VW x c i):(vw x f c i).isPure=true:=by
 have h1:=pure_sl (isSl_R h.x.recs)
 have h2:=pure_sl (isSl_T h.x.globals)
 have h3:=pure_sl (isSl_C h.x.codes)
 have h4:=pure_sl (isSl_S h.x.sites)
 have h5:=pure_sl (isSl_T h.vars)
 have h6:=pure_sl (isSl_N h.ins)
 have h7:=pure_sl (isSl_I h.args)
 simp[vw, *]
theorem VW.sl{x:XD}{c:CD}{i:ID}(h:VW x c i):(isSl x.recs=true/\isSl x.globals=true/\isSl x.codes=true/\isSl x.sites=true/\isSl c.vars=true/\isSl c.ins=true/\isSl i.args=true)/\
  x.recs.view=x.recs/\x.globals.view=x.globals/\x.codes.view=x.codes/\x.sites.view=x.sites/\c.vars.view=c.vars/\c.ins.view=c.ins/\i.args.view=i.args:=
 ⟨⟨isSl_R h.x.recs,isSl_T h.x.globals,isSl_C h.x.codes,isSl_S h.x.sites,isSl_T h.vars,isSl_N h.ins,isSl_I h.args⟩,
  isRs_vw h.x.recs,isTs_vw h.x.globals,isCs_vw h.x.codes,isSs_vw h.x.sites,isTs_vw h.vars,isNs_vw h.ins,view_notOwn h.nargs (isSl_I h.args)⟩
theorem of_ok(wl lim:Nat)(x:XD)(f:Int)(c:CD)(i:ID)(n:Int)(st:Store)(h:VW x c i) :
  (orcL S).call wl lim 173 [vw x f c i,.int .i64 n] st=some (.agg (ofT (dTs c.vars) n).cells,st):=by
 refine call_pure (sf:=s173) rfl rfl (by simp[h.pure]) rfl (by simp) ?_
 have hs:=h.sl
 have hv:=h.vars
 by_cases h0:n<0
 ·have e:ofT (dTs c.vars) n=T0:=by unfold ofT;rw[if_neg (by omega)]
  simp[s173,vw,hs,h0,e,none_ok]
 ·obtain⟨k,rfl⟩:∃k:Nat,n=k:=⟨n.toNat,by omega⟩
  by_cases hk:k<(dTs c.vars).length
  ·have e:ofT (dTs c.vars) k=(dTs c.vars)[k]:=by simp[ofT,List.getD_eq_getElem?_getD,hk]
   have hk':¬((dTs c.vars).length:Int)<=(k:Int):=by omega
   simp[s173,vw,hs,h0,hv,rowsL_T hv,e,hk,hk']
  ·have e:ofT (dTs c.vars) k=T0:=by simp[ofT,List.getD_eq_getElem?_getD,List.getElem?_eq_none (Nat.le_of_not_lt hk)]
   have hk':((dTs c.vars).length:Int)<=(k:Int):=by omega
   simp[s173,vw,hs,h0,hv,rowsL_T hv,e,hk',none_ok]
theorem is_ok(wl lim:Nat)(x:XD)(f:Int)(c:CD)(i:ID)(t:T3)(l:AV)(st:Store)(h:VW x c i)(hl:isI l=true)(hn:(dI l).length<1000000000) :
  (orcL S).call wl lim 174 [vw x f c i,.agg t.cells,l] st=some (.bool (isT (dTs c.vars) t (dI l)),st):=by
 have hcall:=fun n=>of_ok 0 0 x f c i n [] h
 refine call_pure (sf:=s174) rfl rfl (by simp[h.pure,hl]) rfl (by simp) ?_
 have hs:=h.sl
 simp[s174,vw,hs,hl,rowsL_I hl]
 simp only[vw]at hcall
 refine W_loopI s174_l0.eq_1 (fun k:Nat=>⟨[(3,.fp 0 0),(4,.fp 1 0),(9,.val l),(10,.val (.int .i64 (dI l).length)),(11,.val (.int .i64 k))],[(vw x f c i).cells,t.cells],[]⟩) (fun k=>k<=(dI l).length/\∀j (hj:j<(dI l).length),j<k->ofT (dTs c.vars) (dI l)[j]=t) (fun k=>(dI l).length-k) 0 (by simp[vw]) ⟨by omega,fun _ _ h=>by omega⟩ ?_
 intro k ⟨hk,hp⟩ ih
 by_cases hlt:k<(dI l).length
 ·have hw:IntKind.i64.wrap ((k:Int)+1)=((k+1:Nat):Int):=by rw[wrap64]<;>omega
  have hc:=hcall (dI l)[k]
  by_cases he:ofT (dTs c.vars) (dI l)[k]=t
  ·simp[vw,hs,hl,rowsL_I hl,hlt,W_draw0,noBoxes,hc,he,hw]
   exact ih (k+1) ⟨by omega,fun j hj hjk=>by
    rcases Nat.lt_or_ge j k with h|h
    ·exact hp j hj h
    ·have:j=k:=by omega
     subst this;exact he⟩ (by omega)
  ·have he':(decide ((ofT (dTs c.vars) (dI l)[k]).b=t.b)&&(decide ((ofT (dTs c.vars) (dI l)[k]).r=t.r)&&decide ((ofT (dTs c.vars) (dI l)[k]).d=t.d)))=false:=by
    rw[Bool.eq_false_iff]
    intro hh
    simp only[Bool.and_eq_true,decide_eq_true_eq]at hh
    apply he
    cases hq:ofT (dTs c.vars) (dI l)[k]
    cases t
    simp_all
   have hf:isT (dTs c.vars) t (dI l)=false:=by
    unfold isT
    rw[Bool.and_eq_false_iff]
    left
    rw[List.all_eq_false]
    exact⟨_,List.getElem_mem hlt,by simpa using he⟩
   simp[vw,hs,hl,rowsL_I hl,hlt,W_draw0,noBoxes,hc,he',hf]
 ·have hkl:k=(dI l).length:=by omega
  have hall:(dI l).all (fun n=>decide (ofT (dTs c.vars) n=t))=true:=by
   rw[List.all_eq_true]
   intro n hn
   obtain⟨j,hj,rfl⟩:=List.mem_iff_getElem.1 hn
   simpa using hp j hj (by omega)
  have hT:isT (dTs c.vars) t (dI l) = !(decide (t.b=0)&&(decide (t.r=0)&&decide (t.d=0))):=by
   unfold isT
   rw[hall]
   cases t
   simp
  simp[hkl,W_draw0,noBoxes,none_ok,hT]
end U12
namespace U12
open Ax Go Code14z IrV
theorem is1(wl lim:Nat){x:XD}{f:Int}{c:CD}{i:ID}(t:T3)(a:Int)(st:Store)(h:VW x c i) :
  (orcL S).call wl lim 174 [vw x f c i,.agg t.cells,.lst 1 [[.int .i64 a]]] st=some (.bool (isT (dTs c.vars) t [a]),st):=by
 have:=is_ok wl lim x f c i t (.lst 1 [[.int .i64 a]]) st h (by simp) (by simp)
 simpa using this
theorem ints_ok(wl lim:Nat){x:XD}{f:Int}{c:CD}{i:ID}(l:AV)(st:Store)(h:VW x c i)(hl:isI l=true)(hn:(dI l).length<1000000000) :
  (orcL S).call wl lim 171 [vw x f c i,l] st=some (.bool (isT (dTs c.vars) tInt (dI l)),st):=by
 have hc:=is_ok 0 0 x f c i tInt l [] h hl hn
 simp only[vw,T3.cells,tInt]at hc
 have hs:=h.sl
 refine call_pure (sf:=s171) rfl rfl (by simp[h.pure,hl]) rfl (by simp) ?_
 simp[s171,vw,hs,hc,tInt]
theorem bools_ok(wl lim:Nat){x:XD}{f:Int}{c:CD}{i:ID}(l:AV)(st:Store)(h:VW x c i)(hl:isI l=true)(hn:(dI l).length<1000000000) :
  (orcL S).call wl lim 172 [vw x f c i,l] st=some (.bool (isT (dTs c.vars) tBool (dI l)),st):=by
 have hc:=is_ok 0 0 x f c i tBool l [] h hl hn
 simp only[vw,T3.cells,tBool]at hc
 have hs:=h.sl
 refine call_pure (sf:=s172) rfl rfl (by simp[h.pure,hl]) rfl (by simp) ?_
 simp[s172,vw,hs,hc,tBool]
def arrT(vars:List T3)(a item:Int):Bool:=decide (0<(ofT vars a).d)&&isT vars ⟨(ofT vars a).b,(ofT vars a).r,(ofT vars a).d-1⟩ [item]
theorem ofT_range{v:AV}(h:isTs v=true)(n:Int):inR (ofT (dTs v) n).d=true:=by
 unfold ofT
 split
 ·rw[List.getD_eq_getElem?_getD]
  by_cases hk:n.toNat<(dTs v).length
  ·rw[List.getElem?_eq_getElem hk]
   exact(inR_T h _ (List.getElem_mem hk)).2.2
  ·rw[List.getElem?_eq_none (by omega)];rfl
 ·rfl
theorem array_ok(wl lim:Nat){x:XD}{f:Int}{c:CD}{i:ID}(a item:Int)(st:Store)(h:VW x c i) :
  (orcL S).call wl lim 177 [vw x f c i,.int .i64 a,.int .i64 item] st=some (.bool (arrT (dTs c.vars) a item),st):=by
 have hc:=fun n=>of_ok 0 0 x f c i n [] h
 have hi:=fun t n=>is1 0 0 (f:=f) t n [] h
 have hr:=ofT_range h.vars a
 simp only[vw,T3.cells]at hc hi
 have hs:=h.sl
 refine call_pure (sf:=s177) rfl rfl (by simp[h.pure]) rfl (by simp) ?_
 unfold arrT
 generalize ht:ofT (dTs c.vars) a=t at *
 have hc':=hc a
 rw[ht]at hc'
 by_cases hd:t.d<=0
 ·have hd':¬0<t.d:=by omega
  simp[s177,vw,hs,hc',hd,hd']
 ·have hd':0<t.d:=by omega
  have hw:IntKind.i64.wrap (t.d-1)=t.d-1:=by
   simp only[inR,Bool.and_eq_true,decide_eq_true_eq]at hr
   rw[wrap64]<;>omega
  have hi':=hi ⟨t.b,t.r,t.d-1⟩ item
  simp only at hi'
  simp[s177,vw,hs,hc',hd,hd',hw,hi']
theorem place_ok(wl lim:Nat){x:XD}{f:Int}{c:CD}{i:ID}(n:Int)(st:Store)(h:VW x c i) :
  (orcL S).call wl lim 184 [vw x f c i,.int .i64 n] st=some (.bool (decide (0<=n)&&decide (n<(dNs c.ins).length)),st):=by
 have hs:=h.sl
 have hN:=h.ins
 refine call_pure (sf:=s184) rfl rfl (by simp[h.pure]) rfl (by simp) ?_
 by_cases h0:0<=n
 ·simp[s184,vw,hs,h0,rowsL_N hN]
 ·simp[s184,vw,hs,h0]
def getZ{α:Type}(l:List α)(n:Int):Option α:=if 0<=n then l[n.toNat]? else none
theorem getZ_some{α:Type}{l:List α}{n:Int}{y:α}(h:getZ l n=some y):∃k:Nat,n=k/\∃hk:k<l.length,l[k]=y:=by
 unfold getZ at h
 split at h
 ·obtain⟨hk,hy⟩:=List.getElem?_eq_some_iff.1 h
  exact⟨n.toNat,by omega,hk,hy⟩
 ·cases h
theorem getZ_none{α:Type}{l:List α}{n:Int}(h:getZ l n=none):n<0\/(0<=n/\(l.length:Int)<=n):=by
 unfold getZ at h
 split at h
 ·have:=List.getElem?_eq_none_iff.1 h
  exact .inr ⟨by omega,by omega⟩
 ·exact .inl (by omega)
def gloT(gs vars:List T3)(n a:Int):Bool:=match getZ gs n with|some t=>isT vars t [a]|none=>false
theorem global_ok(wl lim:Nat){x:XD}{f:Int}{c:CD}{i:ID}(n a:Int)(st:Store)(h:VW x c i) :
  (orcL S).call wl lim 185 [vw x f c i,.int .i64 n,.int .i64 a] st=some (.bool (gloT (dTs x.globals) (dTs c.vars) n a),st):=by
 have hi:=fun t n=>is1 0 0 (f:=f) t n [] h
 simp only[vw,T3.cells]at hi
 have hs:=h.sl
 have hG:=h.x.globals
 refine call_pure (sf:=s185) rfl rfl (by simp[h.pure]) rfl (by simp) ?_
 unfold gloT
 cases hg:getZ (dTs x.globals) n with
 |none=>
  rcases getZ_none hg with h0|⟨h0,h1⟩
  ·have h0':¬0<=n:=by omega
   simp[s185,vw,hs,h0',W_draw0,noBoxes]
  ·have h1':¬n<((dTs x.globals).length:Int):=by omega
   simp[s185,vw,hs,h0,h1',hG,rowsL_T hG,W_draw0,noBoxes]
 |some t=>
  obtain⟨k,rfl,hk,rfl⟩:=getZ_some hg
  have h0:(0:Int)<=(k:Int):=by omega
  have hi':=hi (dTs x.globals)[k] a
  simp[s185,vw,hs,hk,hG,rowsL_T hG,W_draw0,noBoxes,hi']
def sitT(ss:List SD)(f:Int)(vars:List T3)(n a:Int):Bool:=match getZ ss n with|some s=>decide (s.fn=f)&&isT vars s.t [a]|none=>false
theorem site_ok(wl lim:Nat){x:XD}{f:Int}{c:CD}{i:ID}(n a:Int)(st:Store)(h:VW x c i) :
  (orcL S).call wl lim 178 [vw x f c i,.int .i64 n,.int .i64 a] st=some (.bool (sitT (dSs x.sites) f (dTs c.vars) n a),st):=by
 have hi:=fun t n=>is1 0 0 (f:=f) t n [] h
 simp only[vw,T3.cells]at hi
 have hs:=h.sl
 have hG:=h.x.sites
 refine call_pure (sf:=s178) rfl rfl (by simp[h.pure]) rfl (by simp) ?_
 unfold sitT
 cases hg:getZ (dSs x.sites) n with
 |none=>
  rcases getZ_none hg with h0|⟨h0,h1⟩
  ·have h0':¬0<=n:=by omega
   simp[s178,vw,hs,h0',W_draw0,noBoxes]
  ·have h1':¬n<((dSs x.sites).length:Int):=by omega
   simp[s178,vw,hs,h0,h1',hG,rowsL_S hG,W_draw0,noBoxes]
 |some s=>
  obtain⟨k,rfl,hk,rfl⟩:=getZ_some hg
  have hi':=hi (dSs x.sites)[k].t a
  by_cases hf:(dSs x.sites)[k].fn=f
  ·simp[s178,vw,hs,hk,hG,rowsL_S hG,W_draw0,noBoxes,hi',SD.cells,hf]
  ·simp[s178,vw,hs,hk,hG,rowsL_S hG,W_draw0,noBoxes,SD.cells,hf]
def fldT(rs:List RD)(vars:List T3)(a k v:Int):Bool:=decide ((ofT vars a).b=3)&&decide ((ofT vars a).d=0)&&match getZ rs (ofT vars a).r with
 |some r=>(match getZ (dFs r.fields) k with|some fd=>isT vars fd.t [v]|none=>false)
 |none=>false
theorem field_ok(wl lim:Nat){x:XD}{f:Int}{c:CD}{i:ID}(a k v:Int)(st:Store)(h:VW x c i) :
  (orcL S).call wl lim 176 [vw x f c i,.int .i64 a,.int .i64 k,.int .i64 v] st=some (.bool (fldT (dRs x.recs) (dTs c.vars) a k v),st):=by
 have hc:=fun n=>of_ok 0 0 x f c i n [] h
 have hi:=fun t n=>is1 0 0 (f:=f) t n [] h
 simp only[vw,T3.cells]at hi hc
 have hs:=h.sl
 have hR:=h.x.recs
 refine call_pure (sf:=s176) rfl rfl (by simp[h.pure]) rfl (by simp) ?_
 unfold fldT
 have hc':=hc a
 generalize ht:ofT (dTs c.vars) a=t at *
 by_cases hb:t.b=3
 ·by_cases hd:t.d=0
  ·cases hr:getZ (dRs x.recs) t.r with
   |none=>
    rcases getZ_none hr with h0|⟨h0,h1⟩
    ·simp[s176,vw,hs,hc',hb,hd,h0]
    ·have h0':¬t.r<0:=by omega
     simp[s176,vw,hs,hc',hb,hd,h0',h1,rowsL_R hR]
   |some r=>
    obtain⟨j,hj,hjl,rfl⟩:=getZ_some hr
    have h0':¬t.r<0:=by omega
    have h1':¬((dRs x.recs).length:Int)<=t.r:=by omega
    have hF:=isRs_get hR _ (List.getElem_mem hjl)
    have hFs:=isSl_F hF
    have hFv:=isFs_vw hF
    simp only
    cases hk:getZ (dFs (dRs x.recs)[j].fields) k with
    |none=>
     rcases getZ_none hk with k0|⟨k0,k1⟩
     ·have k0':¬0<=k:=by omega
      rw[hj]at hc' h0' h1'
      simp[s176,vw,hs,hc',hb,hd,h0',h1',hR,rowsL_R hR,hjl,RD.cells,W_draw0,noBoxes,k0',hFv]
     ·have k1':¬k<((dFs (dRs x.recs)[j].fields).length:Int):=by omega
      rw[hj]at hc' h0' h1'
      simp[s176,vw,hs,hc',hb,hd,h0',h1',hR,rowsL_R hR,hjl,RD.cells,W_draw0,noBoxes,k0,k1',hFv,hF,rowsL_F hF]
    |some fd=>
     obtain⟨q,rfl,hq,rfl⟩:=getZ_some hk
     have hi':=hi (dFs (dRs x.recs)[j].fields)[q].t v
     rw[hj]at hc' h0' h1'
     simp[s176,vw,hs,hc',hb,hd,h0',h1',hR,rowsL_R hR,hjl,RD.cells,W_draw0,noBoxes,hq,hFv,hF,rowsL_F hF,FD.cells,hi']
  ·simp[s176,vw,hs,hc',hb,hd]
 ·simp[s176,vw,hs,hc',hb]
end U12
namespace U12
open Ax Go Code14z IrV
def onlyT(a b c n:Bool)(i:ID):Bool:=(a||decide (i.a=0))&&(b||decide (i.b=0))&&(c||decide (i.c=0))&&(n||decide (i.n=0))&&(decide (i.op=13)||decide ((dI i.args).length=0))
def idAV(i:ID):AV:=.agg [.int .i64 i.op,.int .i64 i.a,.int .i64 i.b,.int .i64 i.c,.int .i64 i.n,i.args]
theorem only_ok(wl lim:Nat)(i:ID)(a b c n:Bool)(st:Store)(hi:isI i.args=true)(hno:notOwn i.args=true) :
  (orcL S).call wl lim 170 [idAV i,.bool a,.bool b,.bool c,.bool n] st=some (.bool (onlyT a b c n i),st):=by
 have hs:=isSl_I hi
 have hv:=view_notOwn hno hs
 refine call_pure (sf:=s170) rfl rfl (by simp[idAV,hs]) rfl (by simp) ?_
 unfold onlyT idAV
 cases a with
 |true=>
  cases b with
  |true=>
   cases c with
   |true=>
    cases n with
    |true=>
     by_cases ho:i.op=13
     ·simp[s170,hs,ho]
     ·by_cases hl:((dI i.args).length:Int)=0
      ·have hl2:(dI i.args).length=0:=by omega
       simp[s170,hs,hv,ho,hl2,rowsL_I hi]
      ·have hl2:¬(dI i.args).length=0:=by omega
       simp[s170,hs,hv,ho,hl2,rowsL_I hi]
    |false=>
     by_cases hn:i.n=0
     ·skip
      by_cases ho:i.op=13
      ·simp[s170,hs,hn,ho]
      ·by_cases hl:((dI i.args).length:Int)=0
       ·have hl2:(dI i.args).length=0:=by omega
        simp[s170,hs,hv,hn,ho,hl2,rowsL_I hi]
       ·have hl2:¬(dI i.args).length=0:=by omega
        simp[s170,hs,hv,hn,ho,hl2,rowsL_I hi]
     ·simp[s170,hs,hn]
   |false=>
    by_cases hc:i.c=0
    ·skip
     cases n with
     |true=>
      by_cases ho:i.op=13
      ·simp[s170,hs,hc,ho]
      ·by_cases hl:((dI i.args).length:Int)=0
       ·have hl2:(dI i.args).length=0:=by omega
        simp[s170,hs,hv,hc,ho,hl2,rowsL_I hi]
       ·have hl2:¬(dI i.args).length=0:=by omega
        simp[s170,hs,hv,hc,ho,hl2,rowsL_I hi]
     |false=>
      by_cases hn:i.n=0
      ·skip
       by_cases ho:i.op=13
       ·simp[s170,hs,hc,hn,ho]
       ·by_cases hl:((dI i.args).length:Int)=0
        ·have hl2:(dI i.args).length=0:=by omega
         simp[s170,hs,hv,hc,hn,ho,hl2,rowsL_I hi]
        ·have hl2:¬(dI i.args).length=0:=by omega
         simp[s170,hs,hv,hc,hn,ho,hl2,rowsL_I hi]
      ·simp[s170,hs,hc,hn]
    ·simp[s170,hs,hc]
  |false=>
   by_cases hb:i.b=0
   ·skip
    cases c with
    |true=>
     cases n with
     |true=>
      by_cases ho:i.op=13
      ·simp[s170,hs,hb,ho]
      ·by_cases hl:((dI i.args).length:Int)=0
       ·have hl2:(dI i.args).length=0:=by omega
        simp[s170,hs,hv,hb,ho,hl2,rowsL_I hi]
       ·have hl2:¬(dI i.args).length=0:=by omega
        simp[s170,hs,hv,hb,ho,hl2,rowsL_I hi]
     |false=>
      by_cases hn:i.n=0
      ·skip
       by_cases ho:i.op=13
       ·simp[s170,hs,hb,hn,ho]
       ·by_cases hl:((dI i.args).length:Int)=0
        ·have hl2:(dI i.args).length=0:=by omega
         simp[s170,hs,hv,hb,hn,ho,hl2,rowsL_I hi]
        ·have hl2:¬(dI i.args).length=0:=by omega
         simp[s170,hs,hv,hb,hn,ho,hl2,rowsL_I hi]
      ·simp[s170,hs,hb,hn]
    |false=>
     by_cases hc:i.c=0
     ·skip
      cases n with
      |true=>
       by_cases ho:i.op=13
       ·simp[s170,hs,hb,hc,ho]
       ·by_cases hl:((dI i.args).length:Int)=0
        ·have hl2:(dI i.args).length=0:=by omega
         simp[s170,hs,hv,hb,hc,ho,hl2,rowsL_I hi]
        ·have hl2:¬(dI i.args).length=0:=by omega
         simp[s170,hs,hv,hb,hc,ho,hl2,rowsL_I hi]
      |false=>
       by_cases hn:i.n=0
       ·skip
        by_cases ho:i.op=13
        ·simp[s170,hs,hb,hc,hn,ho]
        ·by_cases hl:((dI i.args).length:Int)=0
         ·have hl2:(dI i.args).length=0:=by omega
          simp[s170,hs,hv,hb,hc,hn,ho,hl2,rowsL_I hi]
         ·have hl2:¬(dI i.args).length=0:=by omega
          simp[s170,hs,hv,hb,hc,hn,ho,hl2,rowsL_I hi]
       ·simp[s170,hs,hb,hc,hn]
     ·simp[s170,hs,hb,hc]
   ·simp[s170,hs,hb]
 |false=>
  by_cases ha:i.a=0
  ·skip
   cases b with
   |true=>
    cases c with
    |true=>
     cases n with
     |true=>
      by_cases ho:i.op=13
      ·simp[s170,hs,ha,ho]
      ·by_cases hl:((dI i.args).length:Int)=0
       ·have hl2:(dI i.args).length=0:=by omega
        simp[s170,hs,hv,ha,ho,hl2,rowsL_I hi]
       ·have hl2:¬(dI i.args).length=0:=by omega
        simp[s170,hs,hv,ha,ho,hl2,rowsL_I hi]
     |false=>
      by_cases hn:i.n=0
      ·skip
       by_cases ho:i.op=13
       ·simp[s170,hs,ha,hn,ho]
       ·by_cases hl:((dI i.args).length:Int)=0
        ·have hl2:(dI i.args).length=0:=by omega
         simp[s170,hs,hv,ha,hn,ho,hl2,rowsL_I hi]
        ·have hl2:¬(dI i.args).length=0:=by omega
         simp[s170,hs,hv,ha,hn,ho,hl2,rowsL_I hi]
      ·simp[s170,hs,ha,hn]
    |false=>
     by_cases hc:i.c=0
     ·skip
      cases n with
      |true=>
       by_cases ho:i.op=13
       ·simp[s170,hs,ha,hc,ho]
       ·by_cases hl:((dI i.args).length:Int)=0
        ·have hl2:(dI i.args).length=0:=by omega
         simp[s170,hs,hv,ha,hc,ho,hl2,rowsL_I hi]
        ·have hl2:¬(dI i.args).length=0:=by omega
         simp[s170,hs,hv,ha,hc,ho,hl2,rowsL_I hi]
      |false=>
       by_cases hn:i.n=0
       ·skip
        by_cases ho:i.op=13
        ·simp[s170,hs,ha,hc,hn,ho]
        ·by_cases hl:((dI i.args).length:Int)=0
         ·have hl2:(dI i.args).length=0:=by omega
          simp[s170,hs,hv,ha,hc,hn,ho,hl2,rowsL_I hi]
         ·have hl2:¬(dI i.args).length=0:=by omega
          simp[s170,hs,hv,ha,hc,hn,ho,hl2,rowsL_I hi]
       ·simp[s170,hs,ha,hc,hn]
     ·simp[s170,hs,ha,hc]
   |false=>
    by_cases hb:i.b=0
    ·skip
     cases c with
     |true=>
      cases n with
      |true=>
       by_cases ho:i.op=13
       ·simp[s170,hs,ha,hb,ho]
       ·by_cases hl:((dI i.args).length:Int)=0
        ·have hl2:(dI i.args).length=0:=by omega
         simp[s170,hs,hv,ha,hb,ho,hl2,rowsL_I hi]
        ·have hl2:¬(dI i.args).length=0:=by omega
         simp[s170,hs,hv,ha,hb,ho,hl2,rowsL_I hi]
      |false=>
       by_cases hn:i.n=0
       ·skip
        by_cases ho:i.op=13
        ·simp[s170,hs,ha,hb,hn,ho]
        ·by_cases hl:((dI i.args).length:Int)=0
         ·have hl2:(dI i.args).length=0:=by omega
          simp[s170,hs,hv,ha,hb,hn,ho,hl2,rowsL_I hi]
         ·have hl2:¬(dI i.args).length=0:=by omega
          simp[s170,hs,hv,ha,hb,hn,ho,hl2,rowsL_I hi]
       ·simp[s170,hs,ha,hb,hn]
     |false=>
      by_cases hc:i.c=0
      ·skip
       cases n with
       |true=>
        by_cases ho:i.op=13
        ·simp[s170,hs,ha,hb,hc,ho]
        ·by_cases hl:((dI i.args).length:Int)=0
         ·have hl2:(dI i.args).length=0:=by omega
          simp[s170,hs,hv,ha,hb,hc,ho,hl2,rowsL_I hi]
         ·have hl2:¬(dI i.args).length=0:=by omega
          simp[s170,hs,hv,ha,hb,hc,ho,hl2,rowsL_I hi]
       |false=>
        by_cases hn:i.n=0
        ·skip
         by_cases ho:i.op=13
         ·simp[s170,hs,ha,hb,hc,hn,ho]
         ·by_cases hl:((dI i.args).length:Int)=0
          ·have hl2:(dI i.args).length=0:=by omega
           simp[s170,hs,hv,ha,hb,hc,hn,ho,hl2,rowsL_I hi]
          ·have hl2:¬(dI i.args).length=0:=by omega
           simp[s170,hs,hv,ha,hb,hc,hn,ho,hl2,rowsL_I hi]
        ·simp[s170,hs,ha,hb,hc,hn]
      ·simp[s170,hs,ha,hb,hc]
    ·simp[s170,hs,ha,hb]
  ·simp[s170,hs,ha]
end U12
namespace U12
open Ax Go Code14z IrV
def bareT(i:ID):Bool:=
 if i.op=1\/i.op=11\/i.op=19\/i.op=20 then onlyT true false false true i else
 if i.op=2\/i.op=14\/i.op=15\/i.op=18 then onlyT true false false false i else
 if i.op=3\/i.op=10 then onlyT true true false false i else
 if i.op=5\/i.op=12 then onlyT true true false true i else
 if i.op=6\/i.op=7\/i.op=8\/i.op=9 then onlyT true true true false i else
 if i.op=4 then onlyT true true true true i else
 if i.op=13 then onlyT true false true false i else
 if i.op=16 then onlyT false false false true i else
 if i.op=17 then onlyT true false true true i else
 false
theorem bare_ok(wl lim:Nat)(i:ID)(st:Store)(hi:isI i.args=true)(hno:notOwn i.args=true) :
  (orcL S).call wl lim 162 [idAV i] st=some (.bool (bareT i),st):=by
 have hs:=isSl_I hi
 have hv:=view_notOwn hno hs
 have oc:=fun op x y z m a b c n=>only_ok 0 0 ⟨op,x,y,z,m,i.args⟩ a b c n [] hi hno
 simp only[idAV]at oc
 refine call_pure (sf:=s162) rfl rfl (by simp[idAV,hs]) rfl (by simp) ?_
 unfold bareT
 unfold idAV
 by_cases h1:i.op=1
 ·simp[s162,hs,hv,oc,onlyT,h1]
 ·by_cases h11:i.op=11
  ·simp[s162,hs,hv,oc,onlyT,h11]
  ·by_cases h19:i.op=19
   ·simp[s162,hs,hv,oc,onlyT,h19]
   ·by_cases h20:i.op=20
    ·simp[s162,hs,hv,oc,onlyT,h20]
    ·by_cases h2:i.op=2
     ·simp[s162,hs,hv,oc,onlyT,h2]
     ·by_cases h14:i.op=14
      ·simp[s162,hs,hv,oc,onlyT,h14]
      ·by_cases h15:i.op=15
       ·simp[s162,hs,hv,oc,onlyT,h15]
       ·by_cases h18:i.op=18
        ·simp[s162,hs,hv,oc,onlyT,h18]
        ·by_cases h3:i.op=3
         ·simp[s162,hs,hv,oc,onlyT,h3]
         ·by_cases h10:i.op=10
          ·simp[s162,hs,hv,oc,onlyT,h10]
          ·by_cases h5:i.op=5
           ·simp[s162,hs,hv,oc,onlyT,h5]
           ·by_cases h12:i.op=12
            ·simp[s162,hs,hv,oc,onlyT,h12]
            ·by_cases h6:i.op=6
             ·simp[s162,hs,hv,oc,onlyT,h6]
             ·by_cases h7:i.op=7
              ·simp[s162,hs,hv,oc,onlyT,h7]
              ·by_cases h8:i.op=8
               ·simp[s162,hs,hv,oc,onlyT,h8]
               ·by_cases h9:i.op=9
                ·simp[s162,hs,hv,oc,onlyT,h9]
                ·by_cases h4:i.op=4
                 ·simp[s162,hs,hv,oc,onlyT,h4]
                 ·by_cases h13:i.op=13
                  ·simp[s162,hs,hv,oc,onlyT,h13]
                  ·by_cases h16:i.op=16
                   ·simp[s162,hs,hv,oc,onlyT,h16]
                   ·by_cases h17:i.op=17
                    ·simp[s162,hs,hv,oc,onlyT,h17]
                    ·simp[s162,hs,h1,h11,h19,h20,h2,h14,h15,h18,h3,h10,h5,h12,h6,h7,h8,h9,h4,h13,h16,h17]
end U12
namespace U12
open Ax Go Code14z IrV
theorem VW.any{x:XD}{c:CD}{i:ID}(h:VW x c i)(p q r s t:Int):VW x c ⟨p,q,r,s,t,i.args⟩:=⟨h.x,h.vars,h.ins,h.args,h.nargs⟩
theorem ints1(wl lim:Nat){x:XD}{f:Int}{c:CD}{i:ID}(a:Int)(st:Store)(h:VW x c i) :
  (orcL S).call wl lim 171 [vw x f c i,.lst 1 [[.int .i64 a]]] st=some (.bool (isT (dTs c.vars) tInt [a]),st):=by
 have:=ints_ok wl lim (f:=f) (.lst 1 [[.int .i64 a]]) st h (by simp) (by simp)
 simpa using this
theorem ints2(wl lim:Nat){x:XD}{f:Int}{c:CD}{i:ID}(a b:Int)(st:Store)(h:VW x c i) :
  (orcL S).call wl lim 171 [vw x f c i,.lst 1 [[.int .i64 a],[.int .i64 b]]] st=some (.bool (isT (dTs c.vars) tInt [a,b]),st):=by
 have:=ints_ok wl lim (f:=f) (.lst 1 [[.int .i64 a],[.int .i64 b]]) st h (by simp) (by simp)
 simpa using this
theorem ints3(wl lim:Nat){x:XD}{f:Int}{c:CD}{i:ID}(a b d:Int)(st:Store)(h:VW x c i) :
  (orcL S).call wl lim 171 [vw x f c i,.lst 1 [[.int .i64 a],[.int .i64 b],[.int .i64 d]]] st=some (.bool (isT (dTs c.vars) tInt [a,b,d]),st):=by
 have:=ints_ok wl lim (f:=f) (.lst 1 [[.int .i64 a],[.int .i64 b],[.int .i64 d]]) st h (by simp) (by simp)
 simpa using this
theorem bools1(wl lim:Nat){x:XD}{f:Int}{c:CD}{i:ID}(a:Int)(st:Store)(h:VW x c i) :
  (orcL S).call wl lim 172 [vw x f c i,.lst 1 [[.int .i64 a]]] st=some (.bool (isT (dTs c.vars) tBool [a]),st):=by
 have:=bools_ok wl lim (f:=f) (.lst 1 [[.int .i64 a]]) st h (by simp) (by simp)
 simpa using this
theorem bools2(wl lim:Nat){x:XD}{f:Int}{c:CD}{i:ID}(a b:Int)(st:Store)(h:VW x c i) :
  (orcL S).call wl lim 172 [vw x f c i,.lst 1 [[.int .i64 a],[.int .i64 b]]] st=some (.bool (isT (dTs c.vars) tBool [a,b]),st):=by
 have:=bools_ok wl lim (f:=f) (.lst 1 [[.int .i64 a],[.int .i64 b]]) st h (by simp) (by simp)
 simpa using this
theorem bools3(wl lim:Nat){x:XD}{f:Int}{c:CD}{i:ID}(a b d:Int)(st:Store)(h:VW x c i) :
  (orcL S).call wl lim 172 [vw x f c i,.lst 1 [[.int .i64 a],[.int .i64 b],[.int .i64 d]]] st=some (.bool (isT (dTs c.vars) tBool [a,b,d]),st):=by
 have:=bools_ok wl lim (f:=f) (.lst 1 [[.int .i64 a],[.int .i64 b],[.int .i64 d]]) st h (by simp) (by simp)
 simpa using this
theorem is1o(wl lim:Nat){x:XD}{f:Int}{c:CD}{i:ID}(n a:Int)(st:Store)(h:VW x c i) :
  (orcL S).call wl lim 174 [vw x f c i,.agg (ofT (dTs c.vars) n).cells,.lst 1 [[.int .i64 a]]] st=some (.bool (isT (dTs c.vars) (ofT (dTs c.vars) n) [a]),st):=is1 wl lim _ a st h
def twoT(vs:List T3)(i:ID):Bool:=
 if i.n=14\/i.n=15\/i.n=16\/i.n=17\/i.n=18 then isT vs tInt [i.a,i.b,i.c] else
 if i.n=19\/i.n=20 then isT vs tBool [i.a]&&isT vs tInt [i.b,i.c] else
 if i.n=21\/i.n=22 then isT vs tBool [i.a]&&isT vs (ofT vs i.b) [i.c] else
 if i.n=23\/i.n=24 then isT vs tBool [i.a,i.b,i.c] else false
theorem two_ok(wl lim:Nat){x:XD}{f:Int}{c:CD}{i:ID}(st:Store)(h:VW x c i) :
  (orcL S).call wl lim 175 [vw x f c i] st=some (.bool (twoT (dTs c.vars) i),st):=by
 have hs:=h.sl
 have hI2:=fun p q r s t a b=>ints2 0 0 (f:=f) (i:=⟨p,q,r,s,t,i.args⟩) a b [] (h.any p q r s t)
 have hI3:=fun p q r s t a b d=>ints3 0 0 (f:=f) (i:=⟨p,q,r,s,t,i.args⟩) a b d [] (h.any p q r s t)
 have hB1:=fun p q r s t a=>bools1 0 0 (f:=f) (i:=⟨p,q,r,s,t,i.args⟩) a [] (h.any p q r s t)
 have hB3:=fun p q r s t a b d=>bools3 0 0 (f:=f) (i:=⟨p,q,r,s,t,i.args⟩) a b d [] (h.any p q r s t)
 have hC:=fun p q r s t n a=>is1o 0 0 (f:=f) (i:=⟨p,q,r,s,t,i.args⟩) n a [] (h.any p q r s t)
 have hO:=fun p q r s t n=>of_ok 0 0 x f c ⟨p,q,r,s,t,i.args⟩ n [] (h.any p q r s t)
 simp only[vw,T3.cells]at hI3 hI2 hB3 hB1 hC hO
 refine call_pure (sf:=s175) rfl rfl (by simp[h.pure]) rfl (by simp) ?_
 by_cases h14:i.n=14
 ·skip
  simp[s175,vw,hs,hI3,twoT,h14]
 ·skip
  by_cases h15:i.n=15
  ·skip
   simp[s175,vw,hs,hI3,twoT,h15]
  ·skip
   by_cases h16:i.n=16
   ·skip
    simp[s175,vw,hs,hI3,twoT,h16]
   ·skip
    by_cases h17:i.n=17
    ·skip
     simp[s175,vw,hs,hI3,twoT,h17]
    ·skip
     by_cases h18:i.n=18
     ·skip
      simp[s175,vw,hs,hI3,twoT,h18]
     ·skip
      by_cases h19:i.n=19
      ·skip
       cases ea:isT (dTs c.vars) tBool [i.a] with
       |true=>
        simp[s175,vw,hs,hI2,hB1,twoT,h19,ea]
       |false=>
        simp[s175,vw,hs,hB1,twoT,h19,ea]
      ·skip
       by_cases h20:i.n=20
       ·skip
        cases ea:isT (dTs c.vars) tBool [i.a] with
        |true=>
         simp[s175,vw,hs,hI2,hB1,twoT,h20,ea]
        |false=>
         simp[s175,vw,hs,hB1,twoT,h20,ea]
       ·skip
        by_cases h21:i.n=21
        ·skip
         cases ea:isT (dTs c.vars) tBool [i.a] with
         |true=>
          simp[s175,W_draw0,noBoxes,vw,hs,hB1,hC,hO,twoT,h21,ea]
         |false=>
          simp[s175,W_draw0,noBoxes,vw,hs,hB1,twoT,h21,ea]
        ·skip
         by_cases h22:i.n=22
         ·skip
          cases ea:isT (dTs c.vars) tBool [i.a] with
          |true=>
           simp[s175,W_draw0,noBoxes,vw,hs,hB1,hC,hO,twoT,h22,ea]
          |false=>
           simp[s175,W_draw0,noBoxes,vw,hs,hB1,twoT,h22,ea]
         ·skip
          by_cases h23:i.n=23
          ·skip
           simp[s175,vw,hs,hB3,twoT,h23]
          ·skip
           by_cases h24:i.n=24
           ·skip
            simp[s175,vw,hs,hB3,twoT,h24]
           ·skip
            simp[s175,vw,hs,twoT,h14,h15,h16,h17,h18,h19,h20,h21,h22,h23,h24]
end U12
namespace U12
open Ax Go Code14z IrV
def calG(vs:List T3)(i:ID)(g:CD):Bool:=decide (((dI i.args).length:Int)=g.params)&&decide (g.params<=(dTs g.vars).length) &&
  ((dI i.args).zip (dTs g.vars)).all (fun p=>isT vs p.2 [p.1])&&(decide (i.a = -1)||g.has&&isT vs g.res [i.a])
def calT(cs:List CD)(vs:List T3)(i:ID):Bool:=match getZ cs i.c with
 |none=>false
 |some g=>calG vs i g
def zall{α β:Type}(p:α->β->Bool)(l:List α)(m:List β)(k:Nat):Prop:=∀j (h1:j<l.length)(h2:j<m.length),j<k->p l[j] m[j]=true
theorem zall_zero{α β:Type}{p:α->β->Bool}{l:List α}{m:List β}:zall p l m 0:=fun _ _ _ h=>absurd h (by omega)
theorem zall_succ{α β:Type}{p:α->β->Bool}{l:List α}{m:List β}{k:Nat}(h:zall p l m k)(h1:k<l.length)(h2:k<m.length)(hp:p l[k] m[k]=true):zall p l m (k+1):=by
 intro j j1 j2 hj
 rcases Nat.lt_or_ge j k with hjk|hjk
 ·exact h j j1 j2 hjk
 ·have:j=k:=by omega
  subst this;exact hp
theorem zall_all{α β:Type}{p:α->β->Bool}{l:List α}{m:List β}(h:zall p l m l.length):(l.zip m).all (fun q=>p q.1 q.2)=true:=by
 rw[List.all_eq_true]
 intro q hq
 obtain⟨j,hj,rfl⟩:=List.mem_iff_getElem.1 hq
 have h1:j<l.length:=by simp at hj;omega
 have h2:j<m.length:=by simp at hj;omega
 simpa using h j h1 h2 h1
theorem zall_false{α β:Type}{p:α->β->Bool}{l:List α}{m:List β}{k:Nat}(h1:k<l.length)(h2:k<m.length)(hp:p l[k] m[k]=false):(l.zip m).all (fun q=>p q.1 q.2)=false:=by
 rw[List.all_eq_false]
 refine⟨(l[k],m[k]),?_,by simp[hp]⟩
 rw[List.mem_iff_getElem]
 exact⟨k,by simp;omega,by simp⟩
theorem call_ok(wl lim:Nat){x:XD}{f:Int}{c:CD}{i:ID}(st:Store)(h:VW x c i)(hb:∀g∈dCs x.codes,(dTs g.vars).length<1000000000) :
  (orcL S).call wl lim 183 [vw x f c i] st=some (.bool (calT (dCs x.codes) (dTs c.vars) i),st):=by
 have hs:=h.sl
 have hG:=h.x.codes
 have hA:=h.args
 have hC:=fun t a=>is1 0 0 (f:=f) t a [] h
 have hi':=fun (g:CD) a=>is1 0 0 (f:=f) g.res a [] h
 simp only[vw,T3.cells]at hC hi'
 refine call_pure (sf:=s183) rfl rfl (by simp[h.pure]) rfl (by simp) ?_
 unfold calT
 cases hg:getZ (dCs x.codes) i.c with
 |none=>
  rcases getZ_none hg with h0|⟨h0,h1⟩
  ·simp[s183,vw,hs,h0]
  ·have h0':¬i.c<0:=by omega
   simp[s183,vw,hs,h0',h1,hG,rowsL_C hG]
 |some g=>
  obtain⟨k,hk,hkl,rfl⟩:=getZ_some hg
  have h0':¬i.c<0:=by omega
  have h1':¬((dCs x.codes).length:Int)<=i.c:=by omega
  have hgm:=List.getElem_mem hkl
  have hV:=(isCs_get hG _ hgm).1
  have hVs:=isSl_T hV
  have hVv:=isTs_vw hV
  have hN:=(isCs_get hG _ hgm).2
  have hNs:=isSl_N hN
  have hNv:=isNs_vw hN
  have hgl:=hb _ hgm
  generalize hgq:(dCs x.codes)[k]=g at *
  rw[hk]at h0' h1'
  unfold calG
  by_cases hp:((dI i.args).length:Int)=g.params
  ·by_cases hq:g.params<=(dTs g.vars).length
   ·have hq':¬((dTs g.vars).length:Int)<g.params:=by omega
    simp[s183,vw,hs,h0',h1',hk,hkl,hG,rowsL_C hG,CD.cells,hA,rowsL_I hA,hp,hVv,hNs,hNv,hV,rowsL_T hV,hq,hq',hgq]
    skip
    refine W_loopI s183_l0.eq_1 (fun k:Nat=>⟨[(1,.fp 0 0),(3,.fp 1 0),(4,.fp 2 0),(43,.val i.args),(44,.val (.int .i64 g.params)),(45,.val (.int .i64 k))],
     [[x.recs,x.globals,x.codes,x.sites,.int .i64 x.main,.int .i64 f,.int .i64 c.params,c.vars,.bool c.has,.int .i64 c.res.b,.int .i64 c.res.r,.int .i64 c.res.d,c.ins,
      .int .i64 i.op,.int .i64 i.a,.int .i64 i.b,.int .i64 i.c,.int .i64 i.n,i.args],
      [.int .i64 i.op,.int .i64 i.a,.int .i64 i.b,.int .i64 i.c,.int .i64 i.n,i.args],
      [.int .i64 g.params,g.vars,.bool g.has,.int .i64 g.res.b,.int .i64 g.res.r,.int .i64 g.res.d,g.ins]],[]⟩)
     (fun k=>k<=(dI i.args).length/\zall (fun a b=>isT (dTs c.vars) b [a]) (dI i.args) (dTs g.vars) k) (fun k=>(dI i.args).length-k) 0 (by simp[hk]) ⟨by omega,zall_zero⟩ ?_
    intro k ⟨hkk,hz⟩ ih
    have hlen:(dI i.args).length<=(dTs g.vars).length:=by omega
    by_cases hlt:k<(dI i.args).length
    ·have hltp:(k:Int)<g.params:=by omega
     have hlt2:k<(dTs g.vars).length:=by omega
     have hw:IntKind.i64.wrap ((k:Int)+1)=((k+1:Nat):Int):=by rw[wrap64]<;>omega
     have hc:=hC (dTs g.vars)[k] (dI i.args)[k]
     cases he:isT (dTs c.vars) (dTs g.vars)[k] [(dI i.args)[k]] with
     |true=>
      simp[hs,hltp,hlt,hlt2,hA,rowsL_I hA,hV,rowsL_T hV,W_draw0,noBoxes,hc,he,hw]
      exact ih (k+1) ⟨by omega,zall_succ hz hlt hlt2 he⟩ (by omega)
     |false=>
      have hf:=zall_false (p:=fun a b=>isT (dTs c.vars) b [a]) hlt hlt2 he
      simp[hs,hltp,hlt,hlt2,hA,rowsL_I hA,hV,rowsL_T hV,W_draw0,noBoxes,hc,he,hf]
    ·have hltp:¬(k:Int)<g.params:=by omega
     have hkl:k=(dI i.args).length:=by omega
     have hf:=zall_all (p:=fun a b=>isT (dTs c.vars) b [a]) (hkl ▸ hz)
     have hi2:=hi' g i.a
     cases e1:decide (i.a = -1) with
     |true=>simp[hltp,hf,of_decide_eq_true e1]
     |false=>
      have e1':=of_decide_eq_false e1
      cases e2:g.has with
      |true=>simp[hs,hltp,hf,e1',hi2]
      |false=>simp[hltp,hf,e1']
   ·have hq':((dTs g.vars).length:Int)<g.params:=by omega
    simp[s183,vw,hs,h0',h1',hk,hkl,hG,rowsL_C hG,CD.cells,hA,rowsL_I hA,hp,hVv,hNs,hNv,hV,rowsL_T hV,hq,hq',hgq]
  ·simp[s183,vw,hs,h0',h1',hk,hkl,hG,rowsL_C hG,CD.cells,hA,rowsL_I hA,hp,hVs,hVv,hNs,hNv,hgq]
end U12
namespace U12
open Ax Go Code14z IrV
def plcT(c:CD)(n:Int):Bool:=decide (0<=n)&&decide (n<(dNs c.ins).length)
def goesT(x:XD)(c:CD)(i:ID):Bool:=
 if i.op=13 then calT (dCs x.codes) (dTs c.vars) i else
 if i.op=14\/i.op=15 then isT (dTs c.vars) tInt [i.a] else
 if i.op=16 then plcT c i.n else
 if i.op=17 then isT (dTs c.vars) tBool [i.a]&&plcT c i.n&&plcT c i.c else
 if i.op=18 then (if c.has then isT (dTs c.vars) c.res [i.a] else decide (i.a = -1)) else
 gloT (dTs x.globals) (dTs c.vars) i.n i.a
theorem calT_op(cs:List CD)(vs:List T3)(i:ID)(p r t:Int):calT cs vs ⟨p,i.a,r,i.c,t,i.args⟩=calT cs vs i:=rfl
theorem is1r(wl lim:Nat){x:XD}{f:Int}{c:CD}{i:ID}(a:Int)(st:Store)(h:VW x c i) :
  (orcL S).call wl lim 174 [vw x f c i,.agg c.res.cells,.lst 1 [[.int .i64 a]]] st=some (.bool (isT (dTs c.vars) c.res [a]),st):=is1 wl lim _ a st h
theorem goes_ok(wl lim:Nat){x:XD}{f:Int}{c:CD}{i:ID}(st:Store)(h:VW x c i)(hb:∀g∈dCs x.codes,(dTs g.vars).length<1000000000) :
  (orcL S).call wl lim 179 [vw x f c i] st=some (.bool (goesT x c i),st):=by
 have hs:=h.sl
 have hI1:=fun p q r s t a=>ints1 0 0 (f:=f) (i:=⟨p,q,r,s,t,i.args⟩) a [] (h.any p q r s t)
 have hB1:=fun p q r s t a=>bools1 0 0 (f:=f) (i:=⟨p,q,r,s,t,i.args⟩) a [] (h.any p q r s t)
 have hR:=fun p q r s t a=>is1r 0 0 (f:=f) (i:=⟨p,q,r,s,t,i.args⟩) a [] (h.any p q r s t)
 have hP:=fun p q r s t n=>place_ok 0 0 (f:=f) (i:=⟨p,q,r,s,t,i.args⟩) n [] (h.any p q r s t)
 have hG:=fun p q r s t n a=>global_ok 0 0 (f:=f) (i:=⟨p,q,r,s,t,i.args⟩) n a [] (h.any p q r s t)
 have hL:=fun p r t=>call_ok 0 0 (x:=x) (f:=f) (c:=c) (i:=⟨p,i.a,r,i.c,t,i.args⟩) [] (h.any p _ r _ t) hb
 have hP:∀p q r s t n,(orcL S).call 0 0 184 [vw x f c ⟨p,q,r,s,t,i.args⟩,.int .i64 n] []=some (.bool (plcT c n),[]):=fun p q r s t n=>hP p q r s t n
 simp only[calT_op]at hL
 simp only[vw,T3.cells]at hI1 hB1 hR hP hG hL
 refine call_pure (sf:=s179) rfl rfl (by simp[h.pure]) rfl (by simp) ?_
 by_cases h13:i.op=13
 ·skip
  simp[s179,vw,hs,hL,goesT,h13]
 ·skip
  by_cases h14:i.op=14
  ·skip
   simp[s179,vw,hs,hI1,goesT,h14]
  ·skip
   by_cases h15:i.op=15
   ·skip
    simp[s179,vw,hs,hI1,goesT,h15]
   ·skip
    by_cases h16:i.op=16
    ·skip
     simp[s179,vw,hs,hP,goesT,h16]
    ·skip
     by_cases h17:i.op=17
     ·skip
      cases eb:isT (dTs c.vars) tBool [i.a] with
      |true=>
       cases ep:plcT c i.n with
       |true=>
        simp[s179,vw,hs,hB1,hP,goesT,h17,eb,ep]
       |false=>
        simp[s179,vw,hs,hB1,hP,goesT,h17,eb,ep]
      |false=>
       cases ep:plcT c i.n with
       |true=>
        simp[s179,vw,hs,hB1,goesT,h17,eb,ep]
       |false=>
        simp[s179,vw,hs,hB1,goesT,h17,eb,ep]
     ·skip
      by_cases h18:i.op=18
      ·skip
       cases eh:c.has with
       |true=>
        simp only[eh]at hR
        cases er:isT (dTs c.vars) c.res [i.a] with
        |true=>
         simp[s179,vw,hs,hR,goesT,h18,eh,er]
        |false=>
         simp[s179,vw,hs,hR,goesT,h18,eh,er]
       |false=>
        simp only[eh]at hR
        cases er:isT (dTs c.vars) c.res [i.a] with
        |true=>
         simp[s179,vw,hs,goesT,h18,eh]
        |false=>
         simp[s179,vw,hs,goesT,h18,eh]
      ·skip
       simp[s179,vw,hs,hG,goesT,h13,h14,h15,h16,h17,h18]
end U12
namespace U12
open Ax Go Code14z IrV
def refT(t:T3):Bool:=decide (t.b=3)||decide (0<t.d)
theorem ref_ok(wl lim:Nat)(a b c:Int)(st:Store) :
  (orcL S).call wl lim 105 [.agg [.int .i64 a,.int .i64 b,.int .i64 c]] st=some (.bool (refT ⟨a,b,c⟩),st):=by
 refine call_pure (sf:=s105) rfl rfl (by simp) rfl (by simp) ?_
 unfold refT
 by_cases h:a=3
 ·simp[s105,h]
 ·simp[s105,h]
def fitsT(x:XD)(f:Int)(c:CD)(i:ID):Bool:=
 if i.op=1 then isT (dTs c.vars) tInt [i.a]||isT (dTs c.vars) tBool [i.a]&&(decide (i.n=0)||decide (i.n=1)) else
 if i.op=2 then refT (ofT (dTs c.vars) i.a) else
 if i.op=3 then isT (dTs c.vars) (ofT (dTs c.vars) i.a) [i.b] else
 if i.op=4 then twoT (dTs c.vars) i else
 if i.op=5 then decide (i.n=12)&&isT (dTs c.vars) tInt [i.a,i.b]||decide (i.n=13)&&isT (dTs c.vars) tBool [i.a,i.b] else
 if i.op=6 then fldT (dRs x.recs) (dTs c.vars) i.b i.c i.a else
 if i.op=7 then fldT (dRs x.recs) (dTs c.vars) i.a i.c i.b else
 if i.op=8 then arrT (dTs c.vars) i.b i.a&&isT (dTs c.vars) tInt [i.c] else
 if i.op=9 then arrT (dTs c.vars) i.a i.c&&isT (dTs c.vars) tInt [i.b] else
 if i.op=10 then isT (dTs c.vars) tInt [i.a]&&decide (0<(ofT (dTs c.vars) i.b).d) else
 if i.op=11 then decide ((ofT (dTs c.vars) i.a).b=3)&&decide ((ofT (dTs c.vars) i.a).d=0)&&sitT (dSs x.sites) f (dTs c.vars) i.n i.a else
 if i.op=12 then decide (0<(ofT (dTs c.vars) i.a).d)&&sitT (dSs x.sites) f (dTs c.vars) i.n i.a&&isT (dTs c.vars) tInt [i.b] else
 goesT x c i
theorem twoT_op(vs:List T3)(i:ID)(p:Int):twoT vs ⟨p,i.a,i.b,i.c,i.n,i.args⟩=twoT vs i:=rfl
theorem fits_ok(wl lim:Nat){x:XD}{f:Int}{c:CD}{i:ID}(st:Store)(h:VW x c i)(hb:∀g∈dCs x.codes,(dTs g.vars).length<1000000000) :
  (orcL S).call wl lim 163 [vw x f c i] st=some (.bool (fitsT x f c i),st):=by
 have hs:=h.sl
 have hI1:=fun p q r s t a=>ints1 0 0 (f:=f) (i:=⟨p,q,r,s,t,i.args⟩) a [] (h.any p q r s t)
 have hI2:=fun p q r s t a b=>ints2 0 0 (f:=f) (i:=⟨p,q,r,s,t,i.args⟩) a b [] (h.any p q r s t)
 have hB1:=fun p q r s t a=>bools1 0 0 (f:=f) (i:=⟨p,q,r,s,t,i.args⟩) a [] (h.any p q r s t)
 have hB2:=fun p q r s t a b=>bools2 0 0 (f:=f) (i:=⟨p,q,r,s,t,i.args⟩) a b [] (h.any p q r s t)
 have hC:=fun p q r s t n a=>is1o 0 0 (f:=f) (i:=⟨p,q,r,s,t,i.args⟩) n a [] (h.any p q r s t)
 have hT:=fun p q r s t n a=>site_ok 0 0 (f:=f) (i:=⟨p,q,r,s,t,i.args⟩) n a [] (h.any p q r s t)
 have hF:=fun p q r s t a k v=>field_ok 0 0 (f:=f) (i:=⟨p,q,r,s,t,i.args⟩) a k v [] (h.any p q r s t)
 have hY:=fun p q r s t a b=>array_ok 0 0 (f:=f) (i:=⟨p,q,r,s,t,i.args⟩) a b [] (h.any p q r s t)
 have hO:=fun p q r s t n=>of_ok 0 0 x f c ⟨p,q,r,s,t,i.args⟩ n [] (h.any p q r s t)
 have hL2:=fun p=>two_ok 0 0 (x:=x) (f:=f) (c:=c) (i:=⟨p,i.a,i.b,i.c,i.n,i.args⟩) [] (h.any p _ _ _ _)
 have hL4:=goes_ok 0 0 (f:=f) [] h hb
 simp only[twoT_op]at hL2
 simp only[vw,T3.cells]at hI1 hI2 hB1 hB2 hC hT hF hY hO hL2 hL4
 refine call_pure (sf:=s163) rfl rfl (by simp[h.pure]) rfl (by simp) ?_
 by_cases h1:i.op=1
 ·skip
  cases ei:isT (dTs c.vars) tInt [i.a] with
  |true=>
   cases eb:isT (dTs c.vars) tBool [i.a] with
   |true=>
    cases n0:decide (i.n=0) with
    |true=>
     simp[s163,vw,hs,hI1,fitsT,h1,ei,eb,n0]
    |false=>
     simp[s163,vw,hs,hI1,fitsT,h1,ei,eb,n0]
   |false=>
    cases n0:decide (i.n=0) with
    |true=>
     simp[s163,vw,hs,hI1,fitsT,h1,ei,eb,n0]
    |false=>
     simp[s163,vw,hs,hI1,fitsT,h1,ei,eb,n0]
  |false=>
   cases eb:isT (dTs c.vars) tBool [i.a] with
   |true=>
    cases n0:decide (i.n=0) with
    |true=>
     simp[s163,vw,hs,hI1,hB1,fitsT,h1,ei,eb,n0]
    |false=>
     simp[s163,vw,hs,hI1,hB1,fitsT,h1,ei,eb,n0]
   |false=>
    cases n0:decide (i.n=0) with
    |true=>
     simp[s163,vw,hs,hI1,hB1,fitsT,h1,ei,eb,n0]
    |false=>
     simp[s163,vw,hs,hI1,hB1,fitsT,h1,ei,eb,n0]
 ·skip
  by_cases h2:i.op=2
  ·skip
   simp[s163,vw,hs,hO,ref_ok,fitsT,h2]
  ·skip
   by_cases h3:i.op=3
   ·skip
    simp[s163,vw,hs,W_draw0,noBoxes,hC,hO,fitsT,h3]
   ·skip
    by_cases h4:i.op=4
    ·skip
     simp[s163,vw,hs,hL2,fitsT,h4]
    ·skip
     by_cases h5:i.op=5
     ·skip
      by_cases m12:i.n=12
      ·skip
       cases e2:isT (dTs c.vars) tInt [i.a,i.b] with
       |true=>
        simp[s163,vw,hs,hI2,fitsT,h5,m12,e2]
       |false=>
        simp[s163,vw,hs,hI2,fitsT,h5,m12,e2]
      ·skip
       by_cases m13:i.n=13
       ·skip
        simp[s163,vw,hs,hB2,fitsT,h5,m13]
       ·skip
        simp[s163,vw,hs,fitsT,h5,m12,m13]
     ·skip
      by_cases h6:i.op=6
      ·skip
       simp[s163,vw,hs,hF,fitsT,h6]
      ·skip
       by_cases h7:i.op=7
       ·skip
        simp[s163,vw,hs,hF,fitsT,h7]
       ·skip
        by_cases h8:i.op=8
        ·skip
         cases ea:arrT (dTs c.vars) i.b i.a with
         |true=>
          simp[s163,vw,hs,hI1,hY,fitsT,h8,ea]
         |false=>
          simp[s163,vw,hs,hY,fitsT,h8,ea]
        ·skip
         by_cases h9:i.op=9
         ·skip
          cases ea:arrT (dTs c.vars) i.a i.c with
          |true=>
           simp[s163,vw,hs,hI1,hY,fitsT,h9,ea]
          |false=>
           simp[s163,vw,hs,hY,fitsT,h9,ea]
         ·skip
          by_cases h10:i.op=10
          ·skip
           cases ei:isT (dTs c.vars) tInt [i.a] with
           |true=>
            simp[s163,vw,hs,hI1,hO,fitsT,h10,ei]
           |false=>
            simp[s163,vw,hs,hI1,fitsT,h10,ei]
          ·skip
           by_cases h11:i.op=11
           ·skip
            cases e3:decide ((ofT (dTs c.vars) i.a).b=3) with
            |true=>
             cases e4:decide ((ofT (dTs c.vars) i.a).d=0) with
             |true=>
              simp[s163,vw,hs,hT,hO,fitsT,h11,e3,e4]
             |false=>
              simp[s163,vw,hs,hO,fitsT,h11,e3,e4]
            |false=>
             cases e4:decide ((ofT (dTs c.vars) i.a).d=0) with
             |true=>
              simp[s163,vw,hs,hO,fitsT,h11,e3,e4]
             |false=>
              simp[s163,vw,hs,hO,fitsT,h11,e3,e4]
           ·skip
            by_cases h12:i.op=12
            ·skip
             cases e5:decide (0<(ofT (dTs c.vars) i.a).d) with
             |true=>
              cases e6:sitT (dSs x.sites) f (dTs c.vars) i.n i.a with
              |true=>
               simp[s163,vw,hs,hI1,hT,hO,fitsT,h12,e5,e6]
              |false=>
               simp[s163,vw,hs,hT,hO,fitsT,h12,e5,e6]
             |false=>
              cases e6:sitT (dSs x.sites) f (dTs c.vars) i.n i.a with
              |true=>
               simp[s163,vw,hs,hO,fitsT,h12,e5,e6]
              |false=>
               simp[s163,vw,hs,hO,fitsT,h12,e5,e6]
            ·skip
             simp[s163,vw,hs,hL4,fitsT,h1,h2,h3,h4,h5,h6,h7,h8,h9,h10,h11,h12]
end U12
namespace U12
open Ax Go Code14z IrV
def xAV(x:XD):AV:=.agg [x.recs,x.globals,x.codes,x.sites,.int .i64 x.main]
theorem _root_.IrV.XD.ok.sl{x:XD}(h:x.ok):(isSl x.recs=true/\isSl x.globals=true/\isSl x.codes=true/\isSl x.sites=true)/\
  x.recs.view=x.recs/\x.globals.view=x.globals/\x.codes.view=x.codes/\x.sites.view=x.sites:=
 ⟨⟨isSl_R h.recs,isSl_T h.globals,isSl_C h.codes,isSl_S h.sites⟩,isRs_vw h.recs,isTs_vw h.globals,isCs_vw h.codes,isSs_vw h.sites⟩
theorem _root_.IrV.XD.ok.pure{x:XD}(h:x.ok):(xAV x).isPure=true:=by
 have h1:=pure_sl (isSl_R h.recs)
 have h2:=pure_sl (isSl_T h.globals)
 have h3:=pure_sl (isSl_C h.codes)
 have h4:=pure_sl (isSl_S h.sites)
 simp[xAV, *]
theorem idPure{i:ID}(hi:isI i.args=true):(idAV i).isPure=true:=by
 have h1:=pure_sl (isSl_I hi)
 simp[idAV, *]
def stepT(x:XD)(f:Int)(i:ID):Bool:=match getZ (dCs x.codes) f with
 |none=>false
 |some c=>bareT i&&fitsT x f c i
theorem step_ok(wl lim:Nat){x:XD}(f:Int){i:ID}(st:Store)(hx:x.ok)(hi:isI i.args=true)(hno:notOwn i.args=true)(hb:∀g∈dCs x.codes,(dTs g.vars).length<1000000000) :
  (orcL S).call wl lim 141 [xAV x,.int .i64 f,idAV i] st=some (.bool (stepT x f i),st):=by
 have hs:=hx.sl
 have hG:=hx.codes
 have h1:=isSl_I hi
 have h2:=view_notOwn hno h1
 have hB:=bare_ok 0 0 i [] hi hno
 simp only[idAV]at hB
 refine call_pure (sf:=s141) rfl rfl (by simp[hx.pure,idPure hi]) rfl (by simp) ?_
 unfold stepT
 cases hg:getZ (dCs x.codes) f with
 |none=>
  rcases getZ_none hg with h0|⟨h0,h1'⟩
  ·have h0':¬0<=f:=by omega
   simp[s141,xAV,idAV,hs,h1,h0',W_draw0,noBoxes]
  ·have h1'':¬f<((dCs x.codes).length:Int):=by omega
   simp[s141,xAV,idAV,hs,h1,h0,h1'',hG,rowsL_C hG,W_draw0,noBoxes]
 |some c=>
  obtain⟨k,rfl,hk,hc⟩:=getZ_some hg
  have hcm:=isCs_get hG c (hc ▸ List.getElem_mem hk)
  have hF:=fits_ok 0 0 (x:=x) (f:=(k:Int)) (c:=c) (i:=i) [] ⟨hx,hcm.1,hcm.2,hi,hno⟩ hb
  have hVs:=isSl_T hcm.1
  have hVv:=isTs_vw hcm.1
  have hNs:=isSl_N hcm.2
  have hNv:=isNs_vw hcm.2
  simp only[vw]at hF
  have h0:(0:Int)<=(k:Int):=by omega
  have h1':(k:Int)<((dCs x.codes).length:Int):=by omega
  cases e:bareT i with
  |true=>simp[s141,xAV,idAV,hs,h1,h2,h0,hk,hG,rowsL_C hG,CD.cells,W_draw0,noBoxes,hB,hF,hc,e,hVv,hNv]
  |false=>simp[s141,xAV,idAV,hs,h1,h2,h0,hk,hG,rowsL_C hG,W_draw0,noBoxes,hB,e]
end U12
