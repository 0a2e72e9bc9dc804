/- Part of a proof. -/
import Derived.Test.YtgblgbgjmgjfkaaCode1
import Derived.Test.YtgblgbgjmgjfkaaI

set_option maxRecDepth 100000
namespace U12
open Ax Go Code14 IrV
theorem none_ok (wl lim:Nat)(st:Store):(orcL S).call wl lim 57 [] st=some (.agg T0.cells,st):=by
 refine call_pure (sf:=s57) rfl rfl rfl rfl rfl ?_
 simp[s57]
def vw (x:XD)(f:Int)(c:CD)(i:ID):AV:=.agg [x.recs,x.globals,x.codes,x.sites,.int .i64 x.main,.int .i64 f,
 .int .i64 c.params,c.vars,.bool c.has,.int .i64 c.res.b,.int .i64 c.res.r,.int .i64 c.res.d,c.ins,
 .int .i64 i.op,.int .i64 i.a,.int .i64 i.b,.int .i64 i.c,.int .i64 i.n,i.args]
structure VW (x:XD)(c:CD)(i:ID):Prop where
 x:x.ok
 vars:isTs c.vars=true
 ins:isNs c.ins=true
 args:isI i.args=true
 nargs:notOwn i.args=true
theorem VW.pure {x:XD}{f:Int}{c:CD}{i:ID}(h:VW x c i):(vw x f c i).isPure=true:=by
 have h1:=pure_sl (isSl_R h.x.recs)
 have h2:=pure_sl (isSl_T h.x.globals)
 have h3:=pure_sl (isSl_C h.x.codes)
 have h4:=pure_sl (isSl_S h.x.sites)
 have h5:=pure_sl (isSl_T h.vars)
 have h6:=pure_sl (isSl_N h.ins)
 have h7:=pure_sl (isSl_I h.args)
 simp[vw, *]
theorem VW.sl {x:XD}{c:CD}{i:ID}(h:VW x c i):(isSl x.recs=true/\isSl x.globals=true/\isSl x.codes=true/\isSl x.sites=true/\isSl c.vars=true/\isSl c.ins=true/\isSl i.args=true)/\
  x.recs.view=x.recs/\x.globals.view=x.globals/\x.codes.view=x.codes/\x.sites.view=x.sites/\c.vars.view=c.vars/\c.ins.view=c.ins/\i.args.view=i.args:=
 ⟨⟨isSl_R h.x.recs,isSl_T h.x.globals,isSl_C h.x.codes,isSl_S h.x.sites,isSl_T h.vars,isSl_N h.ins,isSl_I h.args⟩,
  isRs_vw h.x.recs,isTs_vw h.x.globals,isCs_vw h.x.codes,isSs_vw h.x.sites,isTs_vw h.vars,isNs_vw h.ins,view_notOwn h.nargs (isSl_I h.args)⟩
theorem of_ok (wl lim:Nat)(x:XD)(f:Int)(c:CD)(i:ID)(n:Int)(st:Store)(h:VW x c i) :
  (orcL S).call wl lim 69 [vw x f c i,.int .i64 n] st=some (.agg (ofT (dTs c.vars) n).cells,st):=by
 refine call_pure (sf:=s69) rfl rfl (by simp[h.pure]) rfl (by simp) ?_
 have hs:=h.sl
 have hv:=h.vars
 by_cases h0:n<0
 ·have e:ofT (dTs c.vars) n=T0:=by unfold ofT;rw[if_neg (by omega)]
  simp[s69,vw,hs,h0,e,none_ok]
 ·obtain⟨k,rfl⟩:∃k:Nat,n=k:=⟨n.toNat,by omega⟩
  by_cases hk:k<(dTs c.vars).length
  ·have e:ofT (dTs c.vars) k=(dTs c.vars)[k]:=by simp[ofT,List.getD_eq_getElem?_getD,hk]
   have hk':¬((dTs c.vars).length:Int)<=(k:Int):=by omega
   simp[s69,vw,hs,h0,hv,rowsL_T hv,e,hk,hk']
  ·have e:ofT (dTs c.vars) k=T0:=by simp[ofT,List.getD_eq_getElem?_getD,List.getElem?_eq_none (Nat.le_of_not_lt hk)]
   have hk':((dTs c.vars).length:Int)<=(k:Int):=by omega
   simp[s69,vw,hs,h0,hv,rowsL_T hv,e,hk',none_ok]
theorem is_ok (wl lim:Nat)(x:XD)(f:Int)(c:CD)(i:ID)(t:T3)(l:AV)(st:Store)(h:VW x c i)(hl:isI l=true)(hn:(dI l).length<1000000000) :
  (orcL S).call wl lim 70 [vw x f c i,.agg t.cells,l] st=some (.bool (isT (dTs c.vars) t (dI l)),st):=by
 have hcall:=fun n=>of_ok 0 0 x f c i n [] h
 refine call_pure (sf:=s70) rfl rfl (by simp[h.pure,hl]) rfl (by simp) ?_
 have hs:=h.sl
 simp[s70,vw,hs,hl,rowsL_I hl]
 simp only[vw]at hcall
 refine W_loopI s70_l0.eq_1 (fun k:Nat=>⟨[(3,.fp 0 0),(4,.fp 1 0),(9,.val l),(10,.val (.int .i64 (dI l).length)),(11,.val (.int .i64 k))],[(vw x f c i).cells,t.cells],[]⟩) (fun k=>k<=(dI l).length/\∀j (hj:j<(dI l).length),j<k->ofT (dTs c.vars) (dI l)[j]=t) (fun k=>(dI l).length-k) 0 (by simp[vw]) ⟨by omega,fun _ _ h=>by omega⟩ ?_
 intro k ⟨hk,hp⟩ ih
 by_cases hlt:k<(dI l).length
 ·have hw:IntKind.i64.wrap ((k:Int)+1)=((k+1:Nat):Int):=by rw[wrap64]<;>omega
  have hc:=hcall (dI l)[k]
  by_cases he:ofT (dTs c.vars) (dI l)[k]=t
  ·simp[vw,hs,hl,rowsL_I hl,hlt,W_draw0,noBoxes,hc,he,hw]
   exact ih (k+1) ⟨by omega,fun j hj hjk=>by
    rcases Nat.lt_or_ge j k with h|h
    ·exact hp j hj h
    ·have:j=k:=by omega
     subst this;exact he⟩ (by omega)
  ·have he':(decide ((ofT (dTs c.vars) (dI l)[k]).b=t.b)&&(decide ((ofT (dTs c.vars) (dI l)[k]).r=t.r)&&decide ((ofT (dTs c.vars) (dI l)[k]).d=t.d)))=false:=by
    rw[Bool.eq_false_iff]
    intro hh
    simp only[Bool.and_eq_true,decide_eq_true_eq]at hh
    apply he
    cases hq:ofT (dTs c.vars) (dI l)[k]
    cases t
    simp_all
   have hf:isT (dTs c.vars) t (dI l)=false:=by
    unfold isT
    rw[Bool.and_eq_false_iff]
    left
    rw[List.all_eq_false]
    exact⟨_,List.getElem_mem hlt,by simpa using he⟩
   simp[vw,hs,hl,rowsL_I hl,hlt,W_draw0,noBoxes,hc,he',hf]
 ·have hkl:k=(dI l).length:=by omega
  have hall:(dI l).all (fun n=>decide (ofT (dTs c.vars) n=t))=true:=by
   rw[List.all_eq_true]
   intro n hn
   obtain⟨j,hj,rfl⟩:=List.mem_iff_getElem.1 hn
   simpa using hp j hj (by omega)
  have hT:isT (dTs c.vars) t (dI l) = !(decide (t.b=0)&&(decide (t.r=0)&&decide (t.d=0))):=by
   unfold isT
   rw[hall]
   cases t
   simp
  simp[hkl,W_draw0,noBoxes,none_ok,hT]
end U12
namespace U12
open Ax Go Code14 IrV
theorem is1 (wl lim:Nat){x:XD}{f:Int}{c:CD}{i:ID}(t:T3)(a:Int)(st:Store)(h:VW x c i) :
  (orcL S).call wl lim 70 [vw x f c i,.agg t.cells,.lst 1 [[.int .i64 a]]] st=some (.bool (isT (dTs c.vars) t [a]),st):=by
 have:=is_ok wl lim x f c i t (.lst 1 [[.int .i64 a]]) st h (by simp) (by simp)
 simpa using this
theorem ints_ok (wl lim:Nat){x:XD}{f:Int}{c:CD}{i:ID}(l:AV)(st:Store)(h:VW x c i)(hl:isI l=true)(hn:(dI l).length<1000000000) :
  (orcL S).call wl lim 67 [vw x f c i,l] st=some (.bool (isT (dTs c.vars) tInt (dI l)),st):=by
 have hc:=is_ok 0 0 x f c i tInt l [] h hl hn
 simp only[vw,T3.cells,tInt]at hc
 have hs:=h.sl
 refine call_pure (sf:=s67) rfl rfl (by simp[h.pure,hl]) rfl (by simp) ?_
 simp[s67,vw,hs,hc,tInt]
theorem bools_ok (wl lim:Nat){x:XD}{f:Int}{c:CD}{i:ID}(l:AV)(st:Store)(h:VW x c i)(hl:isI l=true)(hn:(dI l).length<1000000000) :
  (orcL S).call wl lim 68 [vw x f c i,l] st=some (.bool (isT (dTs c.vars) tBool (dI l)),st):=by
 have hc:=is_ok 0 0 x f c i tBool l [] h hl hn
 simp only[vw,T3.cells,tBool]at hc
 have hs:=h.sl
 refine call_pure (sf:=s68) rfl rfl (by simp[h.pure,hl]) rfl (by simp) ?_
 simp[s68,vw,hs,hc,tBool]
def arrT (vars:List T3)(a item:Int):Bool:=decide (0<(ofT vars a).d)&&isT vars ⟨(ofT vars a).b,(ofT vars a).r,(ofT vars a).d-1⟩ [item]
theorem ofT_range {v:AV}(h:isTs v=true)(n:Int):inR (ofT (dTs v) n).d=true:=by
 unfold ofT
 split
 ·rw[List.getD_eq_getElem?_getD]
  by_cases hk:n.toNat<(dTs v).length
  ·rw[List.getElem?_eq_getElem hk]
   exact(inR_T h _ (List.getElem_mem hk)).2.2
  ·rw[List.getElem?_eq_none (by omega)];rfl
 ·rfl
theorem array_ok (wl lim:Nat){x:XD}{f:Int}{c:CD}{i:ID}(a item:Int)(st:Store)(h:VW x c i) :
  (orcL S).call wl lim 73 [vw x f c i,.int .i64 a,.int .i64 item] st=some (.bool (arrT (dTs c.vars) a item),st):=by
 have hc:=fun n=>of_ok 0 0 x f c i n [] h
 have hi:=fun t n=>is1 0 0 (f:=f) t n [] h
 have hr:=ofT_range h.vars a
 simp only[vw,T3.cells]at hc hi
 have hs:=h.sl
 refine call_pure (sf:=s73) rfl rfl (by simp[h.pure]) rfl (by simp) ?_
 unfold arrT
 generalize ht:ofT (dTs c.vars) a=t at *
 have hc':=hc a
 rw[ht]at hc'
 by_cases hd:t.d<=0
 ·have hd':¬0<t.d:=by omega
  simp[s73,vw,hs,hc',hd,hd']
 ·have hd':0<t.d:=by omega
  have hw:IntKind.i64.wrap (t.d-1)=t.d-1:=by
   simp only[inR,Bool.and_eq_true,decide_eq_true_eq]at hr
   rw[wrap64]<;>omega
  have hi':=hi ⟨t.b,t.r,t.d-1⟩ item
  simp only at hi'
  simp[s73,vw,hs,hc',hd,hd',hw,hi']
theorem place_ok (wl lim:Nat){x:XD}{f:Int}{c:CD}{i:ID}(n:Int)(st:Store)(h:VW x c i) :
  (orcL S).call wl lim 77 [vw x f c i,.int .i64 n] st=some (.bool (decide (0<=n)&&decide (n<(dNs c.ins).length)),st):=by
 have hs:=h.sl
 have hN:=h.ins
 refine call_pure (sf:=s77) rfl rfl (by simp[h.pure]) rfl (by simp) ?_
 by_cases h0:0<=n
 ·simp[s77,vw,hs,h0,rowsL_N hN]
 ·simp[s77,vw,hs,h0]
def getZ {α:Type}(l:List α)(n:Int):Option α:=if 0<=n then l[n.toNat]? else none
theorem getZ_some {α:Type}{l:List α}{n:Int}{y:α}(h:getZ l n=some y):∃k:Nat,n=k/\∃hk:k<l.length,l[k]=y:=by
 unfold getZ at h
 split at h
 ·obtain⟨hk,hy⟩:=List.getElem?_eq_some_iff.1 h
  exact⟨n.toNat,by omega,hk,hy⟩
 ·cases h
theorem getZ_none {α:Type}{l:List α}{n:Int}(h:getZ l n=none):n<0\/(0<=n/\(l.length:Int)<=n):=by
 unfold getZ at h
 split at h
 ·have:=List.getElem?_eq_none_iff.1 h
  exact .inr ⟨by omega,by omega⟩
 ·exact .inl (by omega)
def gloT (gs vars:List T3)(n a:Int):Bool:=match getZ gs n with|some t=>isT vars t [a]|none=>false
theorem global_ok (wl lim:Nat){x:XD}{f:Int}{c:CD}{i:ID}(n a:Int)(st:Store)(h:VW x c i) :
  (orcL S).call wl lim 78 [vw x f c i,.int .i64 n,.int .i64 a] st=some (.bool (gloT (dTs x.globals) (dTs c.vars) n a),st):=by
 have hi:=fun t n=>is1 0 0 (f:=f) t n [] h
 simp only[vw,T3.cells]at hi
 have hs:=h.sl
 have hG:=h.x.globals
 refine call_pure (sf:=s78) rfl rfl (by simp[h.pure]) rfl (by simp) ?_
 unfold gloT
 cases hg:getZ (dTs x.globals) n with
 |none=>
  rcases getZ_none hg with h0|⟨h0,h1⟩
  ·have h0':¬0<=n:=by omega
   simp[s78,vw,hs,h0',W_draw0,noBoxes]
  ·have h1':¬n<((dTs x.globals).length:Int):=by omega
   simp[s78,vw,hs,h0,h1',hG,rowsL_T hG,W_draw0,noBoxes]
 |some t=>
  obtain⟨k,rfl,hk,rfl⟩:=getZ_some hg
  have h0:(0:Int)<=(k:Int):=by omega
  have hi':=hi (dTs x.globals)[k] a
  simp[s78,vw,hs,hk,hG,rowsL_T hG,W_draw0,noBoxes,hi']
def sitT (ss:List SD)(f:Int)(vars:List T3)(n a:Int):Bool:=match getZ ss n with|some s=>decide (s.fn=f)&&isT vars s.t [a]|none=>false
theorem site_ok (wl lim:Nat){x:XD}{f:Int}{c:CD}{i:ID}(n a:Int)(st:Store)(h:VW x c i) :
  (orcL S).call wl lim 74 [vw x f c i,.int .i64 n,.int .i64 a] st=some (.bool (sitT (dSs x.sites) f (dTs c.vars) n a),st):=by
 have hi:=fun t n=>is1 0 0 (f:=f) t n [] h
 simp only[vw,T3.cells]at hi
 have hs:=h.sl
 have hG:=h.x.sites
 refine call_pure (sf:=s74) rfl rfl (by simp[h.pure]) rfl (by simp) ?_
 unfold sitT
 cases hg:getZ (dSs x.sites) n with
 |none=>
  rcases getZ_none hg with h0|⟨h0,h1⟩
  ·have h0':¬0<=n:=by omega
   simp[s74,vw,hs,h0',W_draw0,noBoxes]
  ·have h1':¬n<((dSs x.sites).length:Int):=by omega
   simp[s74,vw,hs,h0,h1',hG,rowsL_S hG,W_draw0,noBoxes]
 |some s=>
  obtain⟨k,rfl,hk,rfl⟩:=getZ_some hg
  have hi':=hi (dSs x.sites)[k].t a
  by_cases hf:(dSs x.sites)[k].fn=f
  ·simp[s74,vw,hs,hk,hG,rowsL_S hG,W_draw0,noBoxes,hi',SD.cells,hf]
  ·simp[s74,vw,hs,hk,hG,rowsL_S hG,W_draw0,noBoxes,SD.cells,hf]
def fldT (rs:List RD)(vars:List T3)(a k v:Int):Bool:=decide ((ofT vars a).b=3)&&decide ((ofT vars a).d=0)&&match getZ rs (ofT vars a).r with
 |some r=>(match getZ (dFs r.fields) k with|some fd=>isT vars fd.t [v]|none=>false)
 |none=>false
theorem field_ok (wl lim:Nat){x:XD}{f:Int}{c:CD}{i:ID}(a k v:Int)(st:Store)(h:VW x c i) :
  (orcL S).call wl lim 72 [vw x f c i,.int .i64 a,.int .i64 k,.int .i64 v] st=some (.bool (fldT (dRs x.recs) (dTs c.vars) a k v),st):=by
 have hc:=fun n=>of_ok 0 0 x f c i n [] h
 have hi:=fun t n=>is1 0 0 (f:=f) t n [] h
 simp only[vw,T3.cells]at hi hc
 have hs:=h.sl
 have hR:=h.x.recs
 refine call_pure (sf:=s72) rfl rfl (by simp[h.pure]) rfl (by simp) ?_
 unfold fldT
 have hc':=hc a
 generalize ht:ofT (dTs c.vars) a=t at *
 by_cases hb:t.b=3
 ·by_cases hd:t.d=0
  ·cases hr:getZ (dRs x.recs) t.r with
   |none=>
    rcases getZ_none hr with h0|⟨h0,h1⟩
    ·simp[s72,vw,hs,hc',hb,hd,h0]
    ·have h0':¬t.r<0:=by omega
     simp[s72,vw,hs,hc',hb,hd,h0',h1,rowsL_R hR]
   |some r=>
    obtain⟨j,hj,hjl,rfl⟩:=getZ_some hr
    have h0':¬t.r<0:=by omega
    have h1':¬((dRs x.recs).length:Int)<=t.r:=by omega
    have hF:=isRs_get hR _ (List.getElem_mem hjl)
    have hFs:=isSl_F hF
    have hFv:=isFs_vw hF
    simp only
    cases hk:getZ (dFs (dRs x.recs)[j].fields) k with
    |none=>
     rcases getZ_none hk with k0|⟨k0,k1⟩
     ·have k0':¬0<=k:=by omega
      rw[hj]at hc' h0' h1'
      simp[s72,vw,hs,hc',hb,hd,h0',h1',hR,rowsL_R hR,hjl,RD.cells,W_draw0,noBoxes,k0',hFv]
     ·have k1':¬k<((dFs (dRs x.recs)[j].fields).length:Int):=by omega
      rw[hj]at hc' h0' h1'
      simp[s72,vw,hs,hc',hb,hd,h0',h1',hR,rowsL_R hR,hjl,RD.cells,W_draw0,noBoxes,k0,k1',hFv,hF,rowsL_F hF]
    |some fd=>
     obtain⟨q,rfl,hq,rfl⟩:=getZ_some hk
     have hi':=hi (dFs (dRs x.recs)[j].fields)[q].t v
     rw[hj]at hc' h0' h1'
     simp[s72,vw,hs,hc',hb,hd,h0',h1',hR,rowsL_R hR,hjl,RD.cells,W_draw0,noBoxes,hq,hFv,hF,rowsL_F hF,FD.cells,hi']
  ·simp[s72,vw,hs,hc',hb,hd]
 ·simp[s72,vw,hs,hc',hb]
end U12
