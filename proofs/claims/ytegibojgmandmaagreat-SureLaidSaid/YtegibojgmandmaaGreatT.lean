/- Part of a proof. -/
import Derived.Test.YtegibojgmandmaaGreatR

set_option maxRecDepth 100000
set_option maxHeartbeats 8000000
namespace R9
open Ax Go Code9z V7 Par Chk K9
variable {pre:Store}
theorem ckE_eq (H:Hd)(V:List Vd)(e:E):ckE H V e=if kindsT e.k e.n e.kids.length then
  match ckV H V e.kids with
  |.error x=>.error x
  |.ok ks=>match typE H V e.k e.nm e.on e.od ks with
   |none=>.error e.a
   |some (t,r)=>.ok (.mk e.k (keptN e.k e.n) (keptNm e.k e.nm) (keptOn e.k e.on) (keptOd e.k e.od) ks e.a t r)
  else .error e.a:=by
 obtain⟨k,n,nm,on,od,kids,a,ty,ref⟩:=e
 (conv=>lhs;unfold ckE)<;>rfl
def sndC:SCode->SCode
 |.seq _ b=>b
 |x=>x
def tail67:SCode:=sndC (sndC (sndC (sndC (sndC s67.body))))
theorem tail_no (_e:E)(a:Int)(c:CK)(r:Store)(o X:AObj)(K:Store)(row:List AV) :
  W S 0 (pre.length+(r.length+1)) s67.results (RetQ s67.results .scp (pre++o::r) (.agg E0.row,pre++(c.fail a).obj::r)) [.code tail67] .normal ⟨[(0,.val (.ptr pre.length 0 0 0)),(3,.fp 0 0),(4,.fp 1 0),(6,.val (.ptr (pre.length+(r.length+1)) 0 0 0))],[row,zeroE],pre++(c.fail a).obj::(r++X::K)⟩:=by
 have hfe:=fail_fe (c:=c) (a:=a)
 have eok2:=fun lim r=>ok_ok (pre:=pre) lim (c.fail a) r
 rw[decide_eq_false hfe]at eok2
 rw[E0_row]
 generalize (c.fail a).obj=o2 at *
 simp[-a_load,-a_store,tail67,sndC,s67,eok2,zeroE,paste,AV.view]
theorem freezeC_sl {wl:Nat}{v:AV}{st:Store}(h:isSl v=true):freezeC wl v st=some (v.view,st):=by
 cases v<;>simp_all [isSl,freezeC,AV.isPure,AV.isCell]
theorem freezeL_E {wl:Nat}{y:E}{st:Store}:freezeL wl y.row st=some (y.row,st):=by
 have h1:isSl (esV y.kids)=true:=isSl_esV
 have h2:(esV y.kids).view=esV y.kids:=view_esV
 have h3:freezeC wl (esV y.kids) st=some (esV y.kids,st):=by rw[freezeC_sl h1,h2]
 have fI:∀n,freezeC wl (.int .i64 n) st=some (.int .i64 n,st):=fun n=>rfl
 have fS:∀n,freezeC wl (.str n) st=some (.str n,st):=fun n=>rfl
 rw[E.row_eq]
 simp only[freezeL,h3,fI,fS]
theorem freezeLL_E {wl:Nat}{st:Store}:∀ys:List E,freezeLL wl (E.rows ys) st=some (E.rows ys,st)
 |[]=>rfl
 |y::ys=>by simp only[E.rows,freezeLL,freezeL_E,freezeLL_E ys]
theorem freeze_K {wl v:Nat}{o X:AObj}{r:Store}{ys:List E}(hw:wl=0)(h:ys≠[]):freezeV wl (.mu (pre.length+(r.length+1+1)) v) (pre++o::(r++[X,.rows v 11 (E.rows ys)]))=some (.lst 11 (E.rows ys),pre++o::(r++[X,.rows (v+1) 11 []])):=by
 subst hw
 have h2:(E.rows ys).isEmpty=false:=by cases ys with
  |nil=>exact absurd rfl h
  |cons y l=>rfl
 simp[freezeV,freezeLL_E]
 cases ys with
 |nil=>exact absurd rfl h
 |cons y l=>simp[E.rows]
theorem good_sign (lim:Nat)(c:CK)(r0:Store)(e:E)(ys:List E)(hk:kindsT e.k e.n ys.length=true)(h12:12<=e.k) :
  ∃v' st',(orcL S).call 0 lim 79 [.ptr pre.length 0 0 0,.ptr (pre.length+(r0.length+1)) 0 0 0] (pre++c.obj::(r0++.rows 0 11 [xRow e.k 0 [] [] 0 (kvI (pre.length+(r0.length+1+1)) ys) e.a T0 0]::kK ys))=some (v',st')/\
   TolX pre c.obj r0 (kK ys) (typE c.H c.V e.k e.nm e.on e.od ys) (xRow e.k (keptN e.k e.n) (keptNm e.k e.nm) (keptOn e.k e.on) (keptOd e.k e.od) (kvI (pre.length+(r0.length+1+1)) ys) e.a) v' st':=by
 rw[signs_typ h12]
 have k1:keptN e.k e.n=0:=if_neg (by omega)
 have k2:keptNm e.k e.nm=[]:=if_neg (by omega)
 have k3:keptOn e.k e.on=[]:=if_neg (by omega)
 have k4:keptOd e.k e.od=0:=if_neg (by omega)
 rw[k1,k2,k3,k4]
 by_cases h:e.k=12\/e.k=13
 ·obtain⟨y,rfl⟩:∃y,ys=[y]:=by
   have hlen:ys.length=1:=by rcases h with h|h<;>rw[h]at hk<;>simpa [kindsT] using hk
   match ys,hlen with
   |[y],_=>exact⟨y,rfl⟩
  rw[if_pos h]
  exact⟨_,_,signs1_ok (pre:=pre) lim c.obj r0 e.k 0 [] [] 0 e.a 0 T0 y h,tolX_ok⟩
 ·have h14:14<=e.k:=by omega
  obtain⟨x,y,rfl⟩:∃x y,ys=[x,y]:=by
   have hlen:ys.length=2:=by
    unfold kindsT at hk
    rw[if_neg (by omega),if_neg (by omega),if_neg (by omega),if_neg (by omega)]at hk
    simp only[Bool.and_eq_true,decide_eq_true_eq]at hk
    exact hk.2
   match ys,hlen with
   |[x,y],_=>exact⟨x,y,rfl⟩
  rw[if_neg h]
  exact⟨_,_,signs2_ok (pre:=pre) lim c.obj r0 e.k 0 [] [] 0 e.a 0 T0 x y h14,tolX_ok⟩
theorem fin_ok (o o0:AObj)(r:Store)(ys:List E)(kk n:Int)(nm on:List UInt8)(od a z:Int)(t:T3)(row:List AV)(_hrow:row.length=11) :
  W S 0 (pre.length+(r.length+1)) [SRes.box 4 1 11 true] (RetQ [SRes.box 4 1 11 true] .scp (pre++o0::r) (.agg (xRow kk n nm on od (esV ys) a t z),pre++o::r))
  [.code (.frzH 6 5),.code (.region [{ dst:=some 94,op:=.load true 11 false,args:=[.tmp 6 true],guard:=none },{ dst:=none,op:=.storeF 1 11,args:=[.tmp 4 false,.tmp 94 true],guard:=none }] none []),.code .ret] .normal
  ⟨[(4,.fp 1 0),(6,.val (.ptr (pre.length+(r.length+1)) 0 0 0))],[row,zeroE],pre++o::(r++.rows 0 11 [xRow kk n nm on od (kvI (pre.length+(r.length+1+1)) ys) a t z]::kK ys)⟩:=by
 have hyv:isSl (esV ys)=true:=isSl_esV
 have hyw:(esV ys).view=esV ys:=view_esV
 rw[W_frzH]
 cases ys with
 |nil=>
  refine⟨pre.length+(r.length+1),0,0,0,.nilSl,.nilSl,pre++o::(r++[.rows 0 11 [xRow kk n nm on od .nilSl a t z]]),pre++o::(r++[.rows 0 11 [xRow kk n nm on od .nilSl a t z]]),rfl,?_,rfl,?_,?_⟩
  ·simp[readP,kvI,kK,cut]
  ·simp[writeP,mayWrite,paste]
  ·have he:esV []=.nilSl:=rfl
   rw[he]
   simp[-a_load,-a_store,x_load,zeroE,paste,AV.view]
 |cons y l=>
  have he:esV (y::l)=.lst 11 (E.rows (y::l)):=rfl
  have hfz:=freeze_K (pre:=pre) (wl:=0) (v:=(y::l).length-1) (o:=o) (X:=.rows 0 11 [xRow kk n nm on od (.mu (pre.length+(r.length+1+1)) ((y::l).length-1)) a t z]) (r:=r) (ys:=y::l) rfl (by simp)
  refine⟨pre.length+(r.length+1),0,0,0,.mu (pre.length+(r.length+1+1)) ((y::l).length-1),.lst 11 (E.rows (y::l)),_,pre++o::(r++[.rows 0 11 [xRow kk n nm on od (.lst 11 (E.rows (y::l))) a t z],.rows ((y::l).length-1+1) 11 []]),rfl,?_,hfz,?_,?_⟩
  ·simp[readP,kvI,kK,cut]
  ·simp[writeP,mayWrite,paste]
  ·rw[he]
   generalize E.rows (y::l)=R at *
   simp[-a_load,-a_store,x_load,zeroE,paste,AV.view]
theorem tail_ok (c:CK)(e:E)(r:Store)(o0:AObj)(ys:List E)(hf:c.fe=0)(hs:Small c)(hn:ys.length<1000000000)(hk:kindsT e.k e.n ys.length=true)(hRS:c.H.rs.length=c.H.shapes.length)(hw:∀x∈ys,WT c.H.rs.length x.ty) :
  W S 0 (pre.length+(r.length+1)) s67.results (RetQ s67.results .scp (pre++o0::r) (match typE c.H c.V e.k e.nm e.on e.od ys with
   |none=>(.agg E0.row,pre++(c.fail e.a).obj::r)
   |some (t,z)=>(.agg (E.mk e.k (keptN e.k e.n) (keptNm e.k e.nm) (keptOn e.k e.on) (keptOd e.k e.od) ys e.a t z).row,pre++c.obj::r))) [.code tail67] .normal
   ⟨[(0,.val (.ptr pre.length 0 0 0)),(3,.fp 0 0),(4,.fp 1 0),(6,.val (.ptr (pre.length+(r.length+1)) 0 0 0))],[[.int .i64 e.k,.int .i64 e.n,.str e.nm,.str e.on,.int .i64 e.od,esV e.kids,.int .i64 e.a,.int .i64 e.ty.b,.int .i64 e.ty.r,.int .i64 e.ty.d,.int .i64 e.ref],zeroE],
    pre++c.obj::(r++.rows 0 11 [xRow e.k 0 [] [] 0 (kvI (pre.length+(r.length+1+1)) ys) e.a T0 0]::kK ys)⟩:=by
 have eok:=fun lim r=>ok_ok (pre:=pre) lim c r
 rw[decide_eq_true hf]at eok
 have efl:=fun lim r=>rfail_ok (pre:=pre) lim c e.a r
 have hkv:isSl (esV e.kids)=true:=isSl_esV
 have hkw:(esV e.kids).view=esV e.kids:=view_esV
 have done:∀v' st',TolX pre c.obj r (kK ys) (typE c.H c.V e.k e.nm e.on e.od ys) (xRow e.k (keptN e.k e.n) (keptNm e.k e.nm) (keptOn e.k e.on) (keptOd e.k e.od) (kvI (pre.length+(r.length+1+1)) ys) e.a) v' st'->
   (12<=e.k->(orcL S).call 0 (pre.length+(r.length+1)) 79 [.ptr pre.length 0 0 0,.ptr (pre.length+(r.length+1)) 0 0 0] (pre++c.obj::(r++.rows 0 11 [xRow e.k 0 [] [] 0 (kvI (pre.length+(r.length+1+1)) ys) e.a T0 0]::kK ys))=some (v',st'))->
   (¬12<=e.k->(orcL S).call 0 (pre.length+(r.length+1)) 80 [.ptr pre.length 0 0 0,.agg e.row,.ptr (pre.length+(r.length+1)) 0 0 0] (pre++c.obj::(r++.rows 0 11 [xRow e.k 0 [] [] 0 (kvI (pre.length+(r.length+1+1)) ys) e.a T0 0]::kK ys))=some (v',st'))->
   W S 0 (pre.length+(r.length+1)) s67.results (RetQ s67.results .scp (pre++o0::r) (match typE c.H c.V e.k e.nm e.on e.od ys with
    |none=>(.agg E0.row,pre++(c.fail e.a).obj::r)
    |some (t,z)=>(.agg (E.mk e.k (keptN e.k e.n) (keptNm e.k e.nm) (keptOn e.k e.on) (keptOd e.k e.od) ys e.a t z).row,pre++c.obj::r))) [.code tail67] .normal
    ⟨[(0,.val (.ptr pre.length 0 0 0)),(3,.fp 0 0),(4,.fp 1 0),(6,.val (.ptr (pre.length+(r.length+1)) 0 0 0))],[[.int .i64 e.k,.int .i64 e.n,.str e.nm,.str e.on,.int .i64 e.od,esV e.kids,.int .i64 e.a,.int .i64 e.ty.b,.int .i64 e.ty.r,.int .i64 e.ty.d,.int .i64 e.ref],zeroE],
     pre++c.obj::(r++.rows 0 11 [xRow e.k 0 [] [] 0 (kvI (pre.length+(r.length+1+1)) ys) e.a T0 0]::kK ys)⟩:=by
  rintro v' st' ⟨b,Y,rfl,rfl,hT⟩ c1 c2
  rw[E.row_eq e]at c2
  generalize esV e.kids=kv at *
  cases ht:typE c.H c.V e.k e.nm e.on e.od ys with
  |none=>
   rw[ht]at hT
   simp only at hT ⊢
   subst hT
   rw[E0_row]
   generalize (c.fail e.a).obj=o2 at *
   generalize c.obj=o at *
   by_cases h12:12<=e.k
   ·have c1:=c1 h12
    simp[-a_load,-a_store,tail67,sndC,s67,eok,c1,h12,efl,zeroE,paste,AV.view]
   ·have c2:=c2 h12
    simp[-a_load,-a_store,tail67,sndC,s67,eok,c2,h12,efl,zeroE,hkw,paste,AV.view]
  |some x=>
   obtain⟨t,z⟩:=x
   rw[ht]at hT
   obtain⟨rfl,rfl⟩:=hT
   simp only
   have hr:∀k n nm on od ks a (t:T3) z,(E.mk k n nm on od ks a t z).row=[.int .i64 k,.int .i64 n,.str nm,.str on,.int .i64 od,esV ks,.int .i64 a,.int .i64 t.b,.int .i64 t.r,.int .i64 t.d,.int .i64 z]:=fun k n nm on od ks a t z=>E.row_eq _
   rw[hr]
   generalize c.obj=o at *
   by_cases h12:12<=e.k
   ·have c1:=c1 h12
    simp[-a_load,-a_store,tail67,sndC,s67,eok,c1,h12,AV.view]
    exact fin_ok (pre:=pre) _ _ _ _ _ _ _ _ _ _ _ _ _ rfl
   ·have c2:=c2 h12
    simp[-a_load,-a_store,tail67,sndC,s67,eok,c2,h12,hkw,AV.view]
    exact fin_ok (pre:=pre) _ _ _ _ _ _ _ _ _ _ _ _ _ rfl
 by_cases h12:12<=e.k
 ·obtain⟨v',st',h1,h2⟩:=good_sign (pre:=pre) (pre.length+(r.length+1)) c r e ys hk h12
  exact done v' st' h2 (fun _=>h1) (fun h=>absurd h12 h)
 ·obtain⟨v',st',h1,h2⟩:=plain_ok (pre:=pre) (pre.length+(r.length+1)) c r e ys hs hn hk (by omega) hRS hw
  exact done v' st' h2 (fun h=>absurd h h12) (fun _=>h1)
theorem expr_ok (c:CK)(hf:c.fe=0)(hw:Way c)(e:E):E.sz e<1000000000->OkX pre c e:=by
 induction e using E.ind with
 |_ e ih=>
  intro hsz
  have hks:=E.sz_kids e
  have hkl:=E.szs_len e.kids
  have hl:∀x∈e.kids,OkX pre c x:=fun x hx=>ih x hx (by have:=E.szs_mem hx;omega)
  have hkid:=fun wl lim st=>kids_ok wl lim e.k st
  have hkk:=kids_kinds e.k e.n e.kids.length
  have efl:=fun lim r=>rfail_ok (pre:=pre) lim c e.a r
  have eok:=fun lim r=>ok_ok (pre:=pre) lim c r
  rw[decide_eq_true hf]at eok
  unfold OkX
  rw[ckE_eq]
  have hkv:isSl (esV e.kids)=true:=isSl_esV
  have hkw:(esV e.kids).view=esV e.kids:=view_esV
  have hrE:rowsL (esV e.kids)=E.rows e.kids:=rowsL_lstV
  have hrl:(E.rows e.kids).length=e.kids.length:=by simp
  cases hk:kindsT e.k e.n e.kids.length with
  |false=>
   rw[hk]at hkk
   simp only[Bool.false_eq_true,if_false]
   intro lim r
   rw[E0_row,E.row_eq e]
   generalize kidsT e.k=kt at *
   generalize (c.fail e.a).obj=o2 at *
   generalize c.obj=o at *
   generalize esV e.kids=kv at *
   generalize E.rows e.kids=RE at *
   refine call_run (sf:=s67) rfl rfl rfl ?_
   by_cases a1:kt = -2
   ·simp[-a_load,-a_store,s67,hkid,a1,efl,hkv,paste,AV.view]
   by_cases a2:0<=kt
   ·by_cases a3:(e.kids.length:Int)=kt
    ·have a4:e.k=2/\e.n≠0/\e.n≠1:=by simpa [a1,a2,a3] using hkk
     have a5:(e.k=2)=True:=eq_true a4.1
     have a6:(e.n=0)=False:=eq_false a4.2.1
     have a7:(e.n=1)=False:=eq_false a4.2.2
     simp[-a_load,-a_store,s67,hkid,a1,a2,a3,a5,a6,a7,efl,hkv,hkw,hrE,hrl,paste,AV.view]
    ·simp[-a_load,-a_store,s67,hkid,a1,a2,a3,efl,hkv,hkw,hrE,hrl,paste,AV.view]
   ·have a4:e.k=2/\e.n≠0/\e.n≠1:=by simpa [a1,a2] using hkk
    have a5:(e.k=2)=True:=eq_true a4.1
    have a6:(e.n=0)=False:=eq_false a4.2.1
    have a7:(e.n=1)=False:=eq_false a4.2.2
    simp[-a_load,-a_store,s67,hkid,a1,a2,a5,a6,a7,efl,hkv,paste,AV.view]
  |true=>
   rw[hk]at hkk
   simp only[if_true]
   have hRS:=hw.H.rs
   have walk:∀(lim:Nat) (r:Store) (v:AV) (st:Store),W S 0 (pre.length+(r.length+1)) s67.results (RetQ s67.results .scp (pre++c.obj::r) (v,st)) [.code (.loop s67_l0),.blk 0,.code tail67] .normal
     ⟨[(0,.val (.ptr pre.length 0 0 0)),(3,.fp 0 0),(4,.fp 1 0),(6,.val (.ptr (pre.length+(r.length+1)) 0 0 0)),(7,.val (.int .i64 0))],[[.int .i64 e.k,.int .i64 e.n,.str e.nm,.str e.on,.int .i64 e.od,esV e.kids,.int .i64 e.a,.int .i64 e.ty.b,.int .i64 e.ty.r,.int .i64 e.ty.d,.int .i64 e.ref],zeroE],
      pre++c.obj::(r++[.rows 0 11 [xRow e.k 0 [] [] 0 .nilSl e.a T0 0]])⟩->(orcL S).call 0 lim 67 [.ptr pre.length 0 0 0,.agg e.row] (pre++c.obj::r)=some (v,st):=by
    intro lim r v st go
    rw[E.row_eq e]
    generalize kidsT e.k=kt at *
    generalize c.obj=o at *
    generalize esV e.kids=kv at *
    generalize E.rows e.kids=RE at *
    refine call_run (sf:=s67) rfl rfl rfl ?_
    have fork:(e.k≠2)\/(e.k=2/\e.n=0)\/(e.k=2/\e.n≠0/\e.n=1):=by
     by_cases h2:e.k=2
     ·by_cases h3:e.n=0
      ·exact .inr (.inl ⟨h2,h3⟩)
      ·by_cases h4:e.n=1
       ·exact .inr (.inr ⟨h2,h3,h4⟩)
       ·simp[h2,h3,h4]at hkk
     ·exact .inl h2
    have a1:kt≠-2:=fun h=>by simp[h]at hkk
    by_cases a2:0<=kt
    ·have a3:(e.kids.length:Int)=kt:=by
      apply Classical.byContradiction
      intro h
      simp[a2,h]at hkk
     rcases fork with a4|⟨a4,a5⟩|⟨a4,a5,a6⟩
     ·simp[-a_load,-a_store,s67,hkid,a1,a2,a3,a4,hkv,hkw,hrE,hrl,x_store,paste,AV.view]
      exact go
     ·have a4:(e.k=2)=True:=eq_true a4
      have a5:(e.n=0)=True:=eq_true a5
      simp[-a_load,-a_store,s67,hkid,a1,a2,a3,a4,a5,hkv,hkw,hrE,hrl,x_store,paste,AV.view]
      exact go
     ·have a4:(e.k=2)=True:=eq_true a4
      have a6:(e.n=1)=True:=eq_true a6
      simp[-a_load,-a_store,s67,hkid,a1,a2,a3,a4,a5,a6,hkv,hkw,hrE,hrl,x_store,paste,AV.view]
      exact go
    ·rcases fork with a4|⟨a4,a5⟩|⟨a4,a5,a6⟩
     ·simp[-a_load,-a_store,s67,hkid,a1,a2,a4,hkv,x_store,paste,AV.view]
      exact go
     ·have a4:(e.k=2)=True:=eq_true a4
      have a5:(e.n=0)=True:=eq_true a5
      simp[-a_load,-a_store,s67,hkid,a1,a2,a4,a5,hkv,x_store,paste,AV.view]
      exact go
     ·have a4:(e.k=2)=True:=eq_true a4
      have a6:(e.n=1)=True:=eq_true a6
      simp[-a_load,-a_store,s67,hkid,a1,a2,a4,a5,a6,hkv,x_store,paste,AV.view]
      exact go
   have loop:=fun r {rs:List SRes} {Q:Ex->St->Prop} {kk:List Todo}=>kids_loop (pre:=pre) c e hf (by omega) hl 0 r (rs:=rs) (Q:=Q) (kk:=kk) zeroE (esV e.kids) rfl _ rfl
   cases hv:ckV c.H c.V e.kids with
   |error a=>
    simp only
    intro lim r
    refine walk lim r _ _ (loop r (fun ys h=>by rw[hv]at h;cases h) fun a' X K h=>?_)
    rw[hv]at h
    cases h
    exact tail_no (pre:=pre) e a c r c.obj X K _
   |ok ks=>
    simp only
    have hlen:=ckV_len hv
    have hwt:∀x∈ks,WT c.H.rs.length x.ty:=ckV_mem hv fun x hx y hy=>ckE_wt hw.H hw.V x y hy
    have ht:=fun r=>tail_ok (pre:=pre) c e r c.obj ks hf hw.s (by omega) (by rw[hlen];exact hk) hRS hwt
    cases hT:typE c.H c.V e.k e.nm e.on e.od ks with
    |none=>
     simp only
     intro lim r
     refine walk lim r _ _ (loop r (fun ys h=>?_) fun a' X K h=>by rw[hv]at h;cases h)
     rw[hv]at h
     cases h
     have ht:=ht r
     rw[hT]at ht
     exact ht
    |some x=>
     obtain⟨t,z⟩:=x
     simp only
     intro lim r
     refine walk lim r _ _ (loop r (fun ys h=>?_) fun a' X K h=>by rw[hv]at h;cases h)
     rw[hv]at h
     cases h
     have ht:=ht r
     rw[hT]at ht
     exact ht
end R9
namespace R9
open Ax Go Code9z V7 Par Chk K9
variable {pre:Store}
theorem c_take {lim:Nat}{c:CK}{bx:Boxes}:act0 0 lim (.load false 1 true) [.val (.ptr pre.length 0 0 11)] (pre++[c.obj]) bx=some (.val (mkL 4 (c.V.map Vd.row)),pre++[c.objT (mkL 4 (c.V.map Vd.row)).took],bx):=by
 simp only[CK.obj,CK.objT]
 generalize c.V.map Vd.row=rows
 cases rows with
 |nil=>simp[act0,mkL,cut,readP,writeP,mayWrite,AV.took,AV.isPure,AV.allPure,paste,oneOrAgg]
 |cons a l=>simp[act0,mkL,cut,readP,writeP,mayWrite,AV.took,AV.isPure,AV.allPure,paste,oneOrAgg]
theorem c_put {lim:Nat}{c:CK}{w:AV}{W:List Vd}{bx:Boxes}:act0 0 lim (.store 1) [.val (.ptr pre.length 0 0 11),.val (mkL 4 (W.map Vd.row))] (pre++[c.objT w]) bx=some (.none,pre++[({ c with V:=W }:CK).obj],bx):=by
 simp[CK.obj,CK.objT,mayWrite,AV.allPure,paste]
def OkS (pre:Store)(c:CK)(s:Sm):Prop:=match ckS c.H c.sg.has c.sg.res c.V s with
 |.ok (y,W)=>∀lim,(orcL S).call 0 lim 45 [.ptr pre.length 0 0 0,.agg s.row] (pre++[c.obj])=some (.agg y.row,pre++[(c.setV W).obj])
 |.error a=>∀lim,∃W row,BadRow row/\(orcL S).call 0 lim 45 [.ptr pre.length 0 0 0,.agg s.row] (pre++[c.obj])=some (.agg row,pre++[((c.setV W).fail a).obj])
def OkB (pre:Store)(c:CK)(l:List Sm):Prop:=match ckB c.H c.sg.has c.sg.res c.V l with
 |.ok (ys,W)=>∀lim,(orcL S).call 0 lim 28 [.ptr pre.length 0 0 0,ssV l] (pre++[c.obj])=some (mkL 9 (Sm.rows ys),pre++[(c.setV W).obj])
 |.error a=>∀lim,∃W v,isSl v=true/\(orcL S).call 0 lim 28 [.ptr pre.length 0 0 0,ssV l] (pre++[c.obj])=some (v,pre++[((c.setV W).fail a).obj])
theorem es_loop (c:CK)(s:Sm)(hf:c.fe=0)(hn:s.es.length<1000000000)(h9:s.k≠9)(hl:∀x∈s.es,OkX pre c x)(lim:Nat){rs:List SRes}{Q:Ex->St->Prop}{kk:List Todo}(b1 b3 b4 b5:List AV)(dc:Bool)(xk xod xa xr:Int)(xnm xon:List UInt8)
  (row:List AV) (hrow:row=s.row)
  (hok:∀ys,ckV c.H c.V s.es=.ok ys->W S 0 lim rs Q kk .normal ⟨[(0,.val (.ptr pre.length 0 0 0)),(3,.fp 0 0),(4,.fp 1 0),(5,.fp 2 0),(6,.fp 3 0),(7,.val (.bool dc))],[row,b1,[.int .i64 xk,.str xnm,.str xon,.int .i64 xod,mkL 11 (E.rows ys),.nilSl,.nilSl,.int .i64 xa,.int .i64 xr],b3,b4,b5],pre++[c.obj]⟩)
  (hno:∀a v,isSl v=true->ckV c.H c.V s.es=.error a->W S 0 lim rs Q kk .normal ⟨[(0,.val (.ptr pre.length 0 0 0)),(3,.fp 0 0),(4,.fp 1 0),(5,.fp 2 0),(6,.fp 3 0),(7,.val (.bool dc))],[row,b1,[.int .i64 xk,.str xnm,.str xon,.int .i64 xod,v,.nilSl,.nilSl,.int .i64 xa,.int .i64 xr],b3,b4,b5],pre++[(c.fail a).obj]⟩) :
  W S 0 lim rs Q (.code (.loop s45_l0)::.blk 0::kk) .normal ⟨[(0,.val (.ptr pre.length 0 0 0)),(3,.fp 0 0),(4,.fp 1 0),(5,.fp 2 0),(6,.fp 3 0),(7,.val (.bool dc)),(10,.val (.int .i64 0))],[row,b1,[.int .i64 xk,.str xnm,.str xon,.int .i64 xod,.nilSl,.nilSl,.nilSl,.int .i64 xa,.int .i64 xr],b3,b4,b5],pre++[c.obj]⟩:=by
 subst hrow
 rw[Sm.row_eq]at *
 have hz:isSz 11 (esV s.es)=true:=isSz_E
 have hsl:isSl (esV s.es)=true:=isSl_esV
 have hvw:(esV s.es).view=esV s.es:=view_esV
 have hrE:rowsL (esV s.es)=E.rows s.es:=rowsL_lstV
 have b1':isSl (ssV s.bd)=true:=isSl_ssV
 have eok:=fun lim r=>ok_ok (pre:=pre) lim c r
 rw[decide_eq_true hf]at eok
 have hap:∀(ys:List E) (y:E),ys.length<1000000000->appV 11 120 (mkL 11 (E.rows ys)) [y.row]=some (mkL 11 (E.rows (ys++[y]))):=fun ys y h=>by
  rw[appV_mk (by simp[fits,E.row_eq]) (by simp[room];omega)]
  simp[Erows_map]
 generalize esV s.es=kv at *
 generalize ssV s.bd=bv at *
 generalize ssV s.el=lv at *
 refine W_loopI s45_l0.eq_1 (fun x:Nat×List E×Option Int=>⟨[(0,.val (.ptr pre.length 0 0 0)),(3,.fp 0 0),(4,.fp 1 0),(5,.fp 2 0),(6,.fp 3 0),(7,.val (.bool dc)),(10,.val (.int .i64 x.1))],
   [[.int .i64 s.k,.str s.nm,.str s.on,.int .i64 s.od,kv,bv,lv,.int .i64 s.a,.int .i64 s.ref],b1,[.int .i64 xk,.str xnm,.str xon,.int .i64 xod,mkL 11 (E.rows x.2.1),.nilSl,.nilSl,.int .i64 xa,.int .i64 xr],b3,b4,b5],
   match x.2.2 with
   |none=>pre++[c.obj]
   |some a=>pre++[(c.fail a).obj]⟩)
  (fun x=>x.1<=s.es.length/\x.2.1.length=x.1/\match x.2.2 with
   |none=>preV x.2.1 (ckV c.H c.V (s.es.drop x.1))=ckV c.H c.V s.es
   |some a=>ckV c.H c.V s.es=.error a) (fun x=>s.es.length-x.1) (0,[],none) rfl ⟨by simp,rfl,by simp[preV];split<;>rename_i h<;>exact h.symm⟩ ?_
 rintro⟨j,ys,q⟩ ⟨hj,hy,hq⟩ ih
 simp only at hj hq ih hy
 cases q with
 |some a=>
  simp only at hq ⊢
  have hfe:=fail_fe (c:=c) (a:=a)
  have eok2:=fun lim r=>ok_ok (pre:=pre) lim (c.fail a) r
  rw[decide_eq_false hfe]at eok2
  have hno':=hno a (mkL 11 (E.rows ys)) isSl_mk hq
  generalize (c.fail a).obj=o2 at *
  by_cases hlt:j<s.es.length
  ·simp[-a_load,-a_store,hsl,hvw,hrE,hlt,eok2]
   exact hno'
  ·simp[-a_load,-a_store,hsl,hvw,hrE,hlt]
   exact hno'
 |none=>
  simp only at hq ⊢
  by_cases hlt:j<s.es.length
  ·have hw:IntKind.i64.wrap ((j:Int)+1)=((j+1:Nat):Int):=by rw[wrap64]<;>omega
   have hv:=value_ok (pre:=pre) c s.es[j] hf (hl _ (List.getElem_mem hlt))
   unfold OkW at hv
   rw[pre_drop hlt]at hq
   have gE:=E_get hlt
   have gE':=fun h2=>E_get' hlt h2
   have hlt':j<(E.rows s.es).length:=by simpa using hlt
   have gE'':=gE' hlt'
   clear gE'
   cases hx:valE c s.es[j] with
   |error a=>
    rw[hx]at hq hv
    simp only at hq hv
    obtain⟨y,hv⟩:=hv
    have ap:=hap ys y (by omega)
    have ih':=ih (j+1,ys++[y],some a) ⟨by simp only;omega,by simp[hy],hq.symm⟩ (by simp only;omega)
    simp only at ih'
    have m1:isSl (mkL 11 (E.rows (ys++[y])))=true:=isSl_mk
    generalize mkL 11 (E.rows (ys++[y]))=R at *
    generalize (c.fail a).obj=o2 at *
    generalize c.obj=o at *
    rw[E.row_eq s.es[j]]at hv gE gE''
    rw[E.row_eq y]at hv ap
    generalize s.es[j]=x at *
    simp[-a_load,-a_store,a_loadE,hsl,hvw,hrE,hz,hlt,h9,hw,gE'',eok,hv,ap,m1,W_draw0,noBoxes,paste,AV.view]
    exact ih'
   |ok y=>
    rw[hx]at hq hv
    simp only at hq hv
    have ap:=hap ys y (by omega)
    have ih':=ih (j+1,ys++[y],none) ⟨by simp only;omega,by simp[hy],hq⟩ (by simp only;omega)
    simp only at ih'
    have m1:isSl (mkL 11 (E.rows (ys++[y])))=true:=isSl_mk
    generalize mkL 11 (E.rows (ys++[y]))=R at *
    generalize c.obj=o at *
    rw[E.row_eq s.es[j]]at hv gE gE''
    rw[E.row_eq y]at hv ap
    generalize s.es[j]=x at *
    simp[-a_load,-a_store,a_loadE,hsl,hvw,hrE,hz,hlt,h9,hw,gE'',eok,hv,ap,m1,W_draw0,noBoxes,paste,AV.view]
    exact ih'
  ·have hkl:j=s.es.length:=by omega
   have hR:ckV c.H c.V s.es=.ok ys:=by
    rw[<-hq,hkl,List.drop_length]
    simp[ckV,preV]
   have hok':=hok ys hR
   generalize c.obj=o at *
   simp[-a_load,-a_store,hsl,hvw,hrE,hlt]
   exact hok'
theorem es_call (c:CK)(s:Sm)(e:E)(hf:c.fe=0)(h9:s.k=9)(hes:s.es=[e])(hl:OkX pre c e)(lim:Nat){rs:List SRes}{Q:Ex->St->Prop}{kk:List Todo}(b1 b3 b4 b5:List AV)(dc:Bool)(xk xod xa xr:Int)(xnm xon:List UInt8)
  (row:List AV) (hrow:row=s.row)
  (hok:∀y,ckE c.H c.V e=.ok y->W S 0 lim rs Q kk .normal ⟨[(0,.val (.ptr pre.length 0 0 0)),(3,.fp 0 0),(4,.fp 1 0),(5,.fp 2 0),(6,.fp 3 0),(7,.val (.bool dc))],[row,b1,[.int .i64 xk,.str xnm,.str xon,.int .i64 xod,mkL 11 (E.rows [y]),.nilSl,.nilSl,.int .i64 xa,.int .i64 xr],b3,b4,b5],pre++[c.obj]⟩)
  (hno:∀a v,isSl v=true->ckE c.H c.V e=.error a->W S 0 lim rs Q kk .normal ⟨[(0,.val (.ptr pre.length 0 0 0)),(3,.fp 0 0),(4,.fp 1 0),(5,.fp 2 0),(6,.fp 3 0),(7,.val (.bool dc))],[row,b1,[.int .i64 xk,.str xnm,.str xon,.int .i64 xod,v,.nilSl,.nilSl,.int .i64 xa,.int .i64 xr],b3,b4,b5],pre++[(c.fail a).obj]⟩) :
  W S 0 lim rs Q (.code (.loop s45_l0)::.blk 0::kk) .normal ⟨[(0,.val (.ptr pre.length 0 0 0)),(3,.fp 0 0),(4,.fp 1 0),(5,.fp 2 0),(6,.fp 3 0),(7,.val (.bool dc)),(10,.val (.int .i64 0))],[row,b1,[.int .i64 xk,.str xnm,.str xon,.int .i64 xod,.nilSl,.nilSl,.nilSl,.int .i64 xa,.int .i64 xr],b3,b4,b5],pre++[c.obj]⟩:=by
 subst hrow
 rw[Sm.row_eq]at *
 rw[hes]at *
 have hz:isSz 11 (esV [e])=true:=isSz_E
 have hsl:isSl (esV [e])=true:=isSl_esV
 have hvw:(esV [e]).view=esV [e]:=view_esV
 have hrE:rowsL (esV [e])=[e.row]:=rowsL_lstV
 have eok:=fun lim r=>ok_ok (pre:=pre) lim c r
 rw[decide_eq_true hf]at eok
 have hap:∀y:E,appV 11 120 .nilSl [y.row]=some (mkL 11 (E.rows [y])):=fun y=>by
  have:=appV_mk (sz:=11) (bytes:=120) (r:=[]) (new:=[y.row]) (by simp[fits,E.row_eq]) (by simp[room])
  exact this
 have hw:IntKind.i64.wrap (0+1:Int)=1:=by decide
 rw[h9]at *
 generalize esV [e]=kv at *
 generalize ssV s.bd=bv at *
 generalize ssV s.el=lv at *
 unfold OkX at hl
 rw[W_round s45_l0.eq_1]
 cases hx:ckE c.H c.V e with
 |error a=>
  rw[hx]at hl
  simp only at hl
  have hno':=fun v h=>hno a v h hx
  have hfe:=fail_fe (c:=c) (a:=a)
  have eok2:=fun lim r=>ok_ok (pre:=pre) lim (c.fail a) r
  rw[decide_eq_false hfe]at eok2
  have ap:=hap E0
  have m1:isSl (mkL 11 (E.rows [E0]))=true:=isSl_mk
  generalize mkL 11 (E.rows [E0])=R at *
  generalize (c.fail a).obj=o2 at *
  generalize c.obj=o at *
  rw[E.row_eq e]at hl hrE
  rw[E.row_eq E0]at hl ap
  simp[-a_load,-a_store,a_loadE,hsl,hvw,hrE,hz,eok,hl,ap,m1,W_draw0,noBoxes,paste,AV.view]
  show W S 0 lim rs Q (.code (.loop s45_l0)::.blk 0::kk) .normal _
  rw[W_round s45_l0.eq_1]
  simp[-a_load,-a_store,hsl,hvw,hrE]
  exact hno' _ m1
 |ok y=>
  rw[hx]at hl
  simp only at hl
  have hok':=hok y hx
  have ap:=hap y
  have m1:isSl (mkL 11 (E.rows [y]))=true:=isSl_mk
  generalize mkL 11 (E.rows [y])=R at *
  generalize c.obj=o at *
  rw[E.row_eq e]at hl hrE
  rw[E.row_eq y]at hl ap
  simp[-a_load,-a_store,a_loadE,hsl,hvw,hrE,hz,eok,hl,ap,m1,W_draw0,noBoxes,paste,AV.view]
  show W S 0 lim rs Q (.code (.loop s45_l0)::.blk 0::kk) .normal _
  rw[W_round s45_l0.eq_1]
  simp[-a_load,-a_store,hsl,hvw,hrE]
  exact hok'
end R9
namespace R9
open Ax Go Code9z V7 Par Chk K9
variable {pre:Store}
theorem Smrow_cell {s:Sm}:isSl (esV s.es)=true/\isSl (ssV s.bd)=true/\isSl (ssV s.el)=true:=⟨isSl_esV,isSl_ssV,isSl_ssV⟩
theorem head_form (c:CK)(s:Sm)(lim:Nat)(hn:s.es.length<1000000000)(h:formT c.sg.has s.k s.es=false) :
  (orcL S).call 0 lim 45 [.ptr pre.length 0 0 0,.agg s.row] (pre++[c.obj])=some (.agg [.int .i64 s.k,.str [],.str [],.int .i64 0,.nilSl,.nilSl,.nilSl,.int .i64 s.a,.int .i64 0],pre++[(c.fail s.a).obj]):=by
 have efm:=fun lim=>formed_ok (pre:=pre) lim c s [] hn
 have efl:=fun lim=>rfail_ok (pre:=pre) lim c s.a []
 rw[h]at efm
 obtain⟨e1,b1,l1⟩:=Smrow_cell (s:=s)
 have e2:(esV s.es).view=esV s.es:=view_esV
 have b2:(ssV s.bd).view=ssV s.bd:=view_ssV
 have l2:(ssV s.el).view=ssV s.el:=view_ssV
 rw[Sm.row_eq]at *
 generalize esV s.es=kv at *
 generalize ssV s.bd=bv at *
 generalize ssV s.el=lv at *
 generalize (c.fail s.a).obj=o2 at *
 generalize c.obj=o at *
 refine call_run (sf:=s45) rfl rfl rfl ?_
 simp[-a_load,-a_store,s45,efm,efl,e1,b1,l1,e2,b2,l2,paste,AV.view]
theorem head_type (c:CK)(s:Sm)(lim:Nat)(hs:Small c)(hn:s.es.length<1000000000)(h:formT c.sg.has s.k s.es=true)(ht:declT c.H s.k s.on s.od=none) :
  (orcL S).call 0 lim 45 [.ptr pre.length 0 0 0,.agg s.row] (pre++[c.obj])=some (.agg [.int .i64 s.k,.str [],.str [],.int .i64 0,.nilSl,.nilSl,.nilSl,.int .i64 s.a,.int .i64 0],pre++[(c.fail s.a).obj]):=by
 have efm:=fun lim=>formed_ok (pre:=pre) lim c s [] hn
 have efl:=fun lim=>rfail_ok (pre:=pre) lim c s.a []
 rw[h]at efm
 obtain⟨e1,b1,l1⟩:=Smrow_cell (s:=s)
 have e2:(esV s.es).view=esV s.es:=view_esV
 have b2:(ssV s.bd).view=ssV s.bd:=view_ssV
 have l2:(ssV s.el).view=ssV s.el:=view_ssV
 have ety:=fun wl lim st=>rtyp_ok wl lim c.H.rs s.on s.od st hs.R
 have erc:=fun wl lim bx=>c_rc (pre:=pre) (wl:=wl) (lim:=lim) (c:=c) (r:=[]) (bx:=bx)
 rw[Sm.row_eq]at *
 generalize esV s.es=kv at *
 generalize ssV s.bd=bv at *
 generalize ssV s.el=lv at *
 generalize (c.fail s.a).obj=o2 at *
 generalize c.obj=o at *
 unfold declT at ht
 by_cases h1:s.k=1
 ·rw[if_pos (.inl h1)]at ht
  have h2:(typeT c.H.rs s.on s.od).2=false:=by
   cases hh:(typeT c.H.rs s.on s.od).2 with
   |false=>rfl
   |true=>rw[hh]at ht;cases ht
  unfold tyV at ety
  rw[h2]at ety
  refine call_run (sf:=s45) rfl rfl rfl ?_
  have h1:(s.k=1)=True:=eq_true h1
  simp[-a_load,-a_store,s45,efm,efl,h1,erc,ety,e1,b1,l1,e2,b2,l2,W_drawB,boxOk,paste,AV.view]
 ·by_cases h2:s.k=2
  ·rw[if_pos (.inr h2)]at ht
   have h3:(typeT c.H.rs s.on s.od).2=false:=by
    cases hh:(typeT c.H.rs s.on s.od).2 with
    |false=>rfl
    |true=>rw[hh]at ht;cases ht
   unfold tyV at ety
   rw[h3]at ety
   refine call_run (sf:=s45) rfl rfl rfl ?_
   have h2:(s.k=2)=True:=eq_true h2
   simp[-a_load,-a_store,s45,efm,efl,h1,h2,erc,ety,e1,b1,l1,e2,b2,l2,W_drawB,boxOk,paste,AV.view]
  ·rw[if_neg (by omega)]at ht;cases ht
def tail45:SCode:=sndC (sndC (sndC (sndC (sndC (sndC (sndC s45.body))))))
theorem head_decl (c:CK)(s:Sm)(lim:Nat)(t:T3)(hs:Small c)(hn:s.es.length<1000000000)(h:formT c.sg.has s.k s.es=true)(hk:s.k=1\/s.k=2)(ht:declT c.H s.k s.on s.od=some t){Q:Ex->St->Prop}
  (go:W S 0 (pre.length+1) s45.results Q [.code (.loop s45_l0),.blk 0,.code tail45] .normal
   ⟨[(0,.val (.ptr pre.length 0 0 0)),(3,.fp 0 0),(4,.fp 1 0),(5,.fp 2 0),(6,.fp 3 0),(7,.val (.bool true)),(10,.val (.int .i64 0))],[s.row,Z9,[.int .i64 s.k,.str [],.str s.on,.int .i64 s.od,.nilSl,.nilSl,.nilSl,.int .i64 s.a,.int .i64 0],t.cells,t.cells,[]],pre++[c.obj]⟩) :
  W S (s45.mode.wlOf (pre++[c.obj]).length 0) (s45.mode.limOf (pre++[c.obj]).length lim) s45.results Q [.code s45.body] .normal (begS s45 [.ptr pre.length 0 0 0,.agg s.row] (pre++[c.obj])):=by
 have efm:=fun lim=>formed_ok (pre:=pre) lim c s [] hn
 rw[h]at efm
 obtain⟨e1,b1,l1⟩:=Smrow_cell (s:=s)
 have e2:(esV s.es).view=esV s.es:=view_esV
 have b2:(ssV s.bd).view=ssV s.bd:=view_ssV
 have l2:(ssV s.el).view=ssV s.el:=view_ssV
 have ety:=fun wl lim st=>rtyp_ok wl lim c.H.rs s.on s.od st hs.R
 have erc:=fun wl lim bx=>c_rc (pre:=pre) (wl:=wl) (lim:=lim) (c:=c) (r:=[]) (bx:=bx)
 rw[Sm.row_eq]at *
 generalize esV s.es=kv at *
 generalize ssV s.bd=bv at *
 generalize ssV s.el=lv at *
 generalize c.obj=o at *
 unfold declT at ht
 rw[if_pos hk]at ht
 split at ht
 ·rename_i h2
  cases ht
  unfold tyV at ety
  rw[h2]at ety
  generalize (typeT c.H.rs s.on s.od).1=t at *
  rcases hk with h1|h1
  ·have h1:(s.k=1)=True:=eq_true h1
   simp[-a_load,-a_store,s45,efm,h1,erc,ety,e1,b1,l1,e2,b2,l2,W_drawB,boxOk,paste,AV.view]
   exact go
  ·have h0:¬s.k=1:=by omega
   have h1:(s.k=2)=True:=eq_true h1
   simp[-a_load,-a_store,s45,efm,h0,h1,erc,ety,e1,b1,l1,e2,b2,l2,W_drawB,boxOk,paste,AV.view]
   exact go
 ·cases ht
theorem head_else (c:CK)(s:Sm)(lim:Nat)(hn:s.es.length<1000000000)(h:formT c.sg.has s.k s.es=true)(hk:¬(s.k=1\/s.k=2)){Q:Ex->St->Prop}
  (go:W S 0 (pre.length+1) s45.results Q [.code (.loop s45_l0),.blk 0,.code tail45] .normal
   ⟨[(0,.val (.ptr pre.length 0 0 0)),(3,.fp 0 0),(4,.fp 1 0),(5,.fp 2 0),(6,.fp 3 0),(7,.val (.bool false)),(10,.val (.int .i64 0))],[s.row,Z9,[.int .i64 s.k,.str [],.str [],.int .i64 0,.nilSl,.nilSl,.nilSl,.int .i64 s.a,.int .i64 0],T0.cells,[],[]],pre++[c.obj]⟩) :
  W S (s45.mode.wlOf (pre++[c.obj]).length 0) (s45.mode.limOf (pre++[c.obj]).length lim) s45.results Q [.code s45.body] .normal (begS s45 [.ptr pre.length 0 0 0,.agg s.row] (pre++[c.obj])):=by
 have efm:=fun lim=>formed_ok (pre:=pre) lim c s [] hn
 rw[h]at efm
 obtain⟨e1,b1,l1⟩:=Smrow_cell (s:=s)
 have e2:(esV s.es).view=esV s.es:=view_esV
 have b2:(ssV s.bd).view=ssV s.bd:=view_ssV
 have l2:(ssV s.el).view=ssV s.el:=view_ssV
 rw[Sm.row_eq]at *
 generalize esV s.es=kv at *
 generalize ssV s.bd=bv at *
 generalize ssV s.el=lv at *
 generalize c.obj=o at *
 have h1:¬s.k=1:=fun e=>hk (.inl e)
 have h2:¬s.k=2:=fun e=>hk (.inr e)
 simp[-a_load,-a_store,s45,efm,h1,h2,e1,b1,l1,e2,b2,l2,paste,AV.view]
 exact go
end R9
namespace R9
open Ax Go Code9z V7 Par Chk K9
variable {pre:Store}
def ckR (H:Hd)(has:Bool)(res:T3)(V:List Vd)(s:Sm)(ys:List E)(t:T3):Except Int (Sm×List Vd):=match fitT H res V s.k s.nm ys t with
 |none=>.error s.a
 |some (r,W)=>if s.k=5 then
   match ckB H has res W s.bd with
   |.error x=>.error x
   |.ok (b,W1)=>match ckB H has res W1 s.el with
    |.error x=>.error x
    |.ok (c,W2)=>.ok (.mk s.k (keptS s.k s.nm) (keptSn s.k s.on) (keptSd s.k s.od) ys b c s.a r,W2)
  else if s.k=6 then
   match ckB H has res W s.bd with
   |.error x=>.error x
   |.ok (b,W1)=>.ok (.mk s.k (keptS s.k s.nm) (keptSn s.k s.on) (keptSd s.k s.od) ys b [] s.a r,W1)
  else .ok (.mk s.k (keptS s.k s.nm) (keptSn s.k s.on) (keptSd s.k s.od) ys [] [] s.a r,W)
def TQ (pre:Store)(Q:Ex->St->Prop)(s:Sm)(ev:AV)(o:AObj)(dc:Bool)(xon:List UInt8)(xod:Int)(b3 b4:List AV):Prop:=
 W S 0 (pre.length+1) s45.results Q [.code tail45] .normal
  ⟨[(0,.val (.ptr pre.length 0 0 0)),(3,.fp 0 0),(4,.fp 1 0),(5,.fp 2 0),(6,.fp 3 0),(7,.val (.bool dc))],[s.row,Z9,[.int .i64 s.k,.str [],.str xon,.int .i64 xod,ev,.nilSl,.nilSl,.int .i64 s.a,.int .i64 0],b3,b4,[]],pre++[o]⟩
def TG (pre:Store)(c:CK)(s:Sm)(ev:AV)(o:AObj)(dc:Bool)(xon:List UInt8)(xod:Int)(b3 b4:List AV)(v:AV)(st:Store):Prop:=TQ pre (RetQ s45.results .scp (pre++[c.obj]) (v,st)) s ev o dc xon xod b3 b4
theorem tail_fault (c:CK)(s:Sm)(a:Int)(ev:AV)(dc:Bool)(xon:List UInt8)(xod:Int)(b3 b4:List AV)(hv:isSl ev=true) :
  TG pre c s ev (c.fail a).obj dc xon xod b3 b4 (.agg [.int .i64 s.k,.str [],.str xon,.int .i64 xod,ev.view,.nilSl,.nilSl,.int .i64 s.a,.int .i64 0]) (pre++[(c.fail a).obj]):=by
 unfold TG TQ
 have hfe:=fail_fe (c:=c) (a:=a)
 have eok2:=fun lim=>ok_ok (pre:=pre) lim (c.fail a) []
 rw[decide_eq_false hfe]at eok2
 generalize (c.fail a).obj=o2 at *
 have hv2:isSl ev.view=true:=by rw[isSl_view];exact hv
 have hv3:ev.view.view=ev.view:=view_view ev
 generalize s.row=row at *
 simp[-a_load,-a_store,tail45,sndC,s45,eok2,hv2,paste,AV.view]
theorem stmt_of (c:CK)(s:Sm)(hf:c.fe=0)(hw:Way c)(hsz:c.V.length+Sm.sz s<1000000000)(h:formT c.sg.has s.k s.es=true)(t:T3)(ht:declT c.H s.k s.on s.od=some t)
  (rest:∀ys,esT c.H c.V s.k s.es=.ok ys->match ckR c.H c.sg.has c.sg.res c.V s ys t with
   |.ok (y,W)=>TG pre c s (mkL 11 (E.rows ys)) c.obj (decide (s.k=1\/s.k=2)) (keptSn s.k s.on) (keptSd s.k s.od) (if s.k=1\/s.k=2 then t.cells else T0.cells) (if s.k=1\/s.k=2 then t.cells else []) (.agg y.row) (pre++[(c.setV W).obj])
   |.error a=>∃W row,BadRow row/\TG pre c s (mkL 11 (E.rows ys)) c.obj (decide (s.k=1\/s.k=2)) (keptSn s.k s.on) (keptSd s.k s.od) (if s.k=1\/s.k=2 then t.cells else T0.cells) (if s.k=1\/s.k=2 then t.cells else []) (.agg row) (pre++[((c.setV W).fail a).obj])):OkS pre c s:=by
 have hz:=Sm.sz_eq s
 have hel:=E.szs_len s.es
 have hes:∀x∈s.es,OkX pre c x:=fun x hx=>expr_ok c hf hw x (by have:=E.szs_mem hx;omega)
 have hcs:c.setV c.V=c:=rfl
 have hckS:ckS c.H c.sg.has c.sg.res c.V s=match esT c.H c.V s.k s.es with
   |.error x=>.error x
   |.ok ys=>ckR c.H c.sg.has c.sg.res c.V s ys t:=by rw[ckS_eq,if_pos h,ht];rfl
 unfold OkS
 rw[hckS]
 have key:∀lim (Q:Ex->St->Prop),(∀ys,esT c.H c.V s.k s.es=.ok ys->TQ pre Q s (mkL 11 (E.rows ys)) c.obj (decide (s.k=1\/s.k=2)) (keptSn s.k s.on) (keptSd s.k s.od) (if s.k=1\/s.k=2 then t.cells else T0.cells) (if s.k=1\/s.k=2 then t.cells else []))->
   (∀a ev,isSl ev=true->esT c.H c.V s.k s.es=.error a->TQ pre Q s ev (c.fail a).obj (decide (s.k=1\/s.k=2)) (keptSn s.k s.on) (keptSd s.k s.od) (if s.k=1\/s.k=2 then t.cells else T0.cells) (if s.k=1\/s.k=2 then t.cells else []))->
   W S (s45.mode.wlOf (pre++[c.obj]).length 0) (s45.mode.limOf (pre++[c.obj]).length lim) s45.results Q [.code s45.body] .normal (begS s45 [.ptr pre.length 0 0 0,.agg s.row] (pre++[c.obj])):=by
  intro lim Q g1 g2
  unfold TQ at g1 g2
  by_cases hk:s.k=1\/s.k=2
  ·have h9:s.k≠9:=by omega
   have he9:esT c.H c.V s.k s.es=ckV c.H c.V s.es:=if_neg h9
   have k1:keptSn s.k s.on=s.on:=if_pos hk
   have k2:keptSd s.k s.od=s.od:=if_pos hk
   simp only[if_pos hk,decide_eq_true hk,k1,k2,he9]at g1 g2
   exact head_decl c s lim t hw.s (by omega) h hk ht (es_loop c s hf (by omega) h9 hes _ _ _ _ _ _ _ _ _ _ _ _ _ rfl g1 g2)
  ·have k1:keptSn s.k s.on=[]:=if_neg hk
   have k2:keptSd s.k s.od=0:=if_neg hk
   simp only[if_neg hk,decide_eq_false hk,k1,k2]at g1 g2
   by_cases h9:s.k=9
   ·obtain⟨e,hee⟩:∃e,s.es=[e]:=by
     rw[h9]at h
     unfold formT at h
     rw[if_neg (by decide),if_neg (by decide),if_neg (by decide),if_pos rfl]at h
     match hh:s.es,h with
     |[e],_=>exact⟨e,rfl⟩
    have he9:esT c.H c.V s.k s.es=match ckE c.H c.V e with
      |.error x=>.error x
      |.ok y=>.ok [y]:=by unfold esT;rw[if_pos h9,hee];rfl
    rw[he9]at g1 g2
    exact head_else c s lim (by omega) h hk (es_call c s e hf h9 hee (hes e (by rw[hee];exact List.mem_cons_self)) _ _ _ _ _ _ _ _ _ _ _ _ _ rfl
     (fun y hy=>g1 [y] (by rw[hy])) (fun a ev hev hy=>g2 a ev hev (by rw[hy])))
   ·have he9:esT c.H c.V s.k s.es=ckV c.H c.V s.es:=if_neg h9
    rw[he9]at g1 g2
    exact head_else c s lim (by omega) h hk (es_loop c s hf (by omega) h9 hes _ _ _ _ _ _ _ _ _ _ _ _ _ rfl g1 g2)
 cases hv:esT c.H c.V s.k s.es with
 |error a=>
  simp only
  intro lim
  obtain⟨v,st',h1,row,h2,h3,h4⟩:∃v st',(orcL S).call 0 lim 45 [.ptr pre.length 0 0 0,.agg s.row] (pre++[c.obj])=some (v,st')/\∃row,BadRow row/\v=.agg row/\st'=pre++[(c.fail a).obj]:=by
   refine call_ex (sf:=s45) rfl rfl rfl (key lim _ (fun ys hz=>by rw[hv]at hz;cases hz) fun a' ev hev hz=>?_)
   rw[hv]at hz
   cases hz
   have hT:=tail_fault (pre:=pre) c s a ev (decide (s.k=1\/s.k=2)) (keptSn s.k s.on) (keptSd s.k s.od) (if s.k=1\/s.k=2 then t.cells else T0.cells) (if s.k=1\/s.k=2 then t.cells else []) hev
   unfold TG TQ at hT
   unfold TQ
   obtain⟨x',s',g1,g2⟩:=hT
   exact⟨x',s',g1,_,g2,_,⟨_,_,_,_,_,_,_,_,_,rfl,by rw[isSl_view];exact hev,rfl,rfl⟩,rfl,rfl⟩
  subst h3 h4
  exact⟨c.V,row,h2,h1⟩
 |ok ys=>
  simp only
  have rest:=rest ys hv
  cases hR:ckR c.H c.sg.has c.sg.res c.V s ys t with
  |ok x=>
   obtain⟨y,W⟩:=x
   rw[hR]at rest
   simp only at rest ⊢
   intro lim
   exact call_run (sf:=s45) rfl rfl rfl (key lim _ (fun zs hz=>by rw[hv]at hz;cases hz;exact rest) fun a ev _ hz=>by rw[hv]at hz;cases hz)
  |error a=>
   rw[hR]at rest
   simp only at rest ⊢
   intro lim
   obtain⟨W,row,hb,rest⟩:=rest
   exact⟨W,row,hb,call_run (sf:=s45) rfl rfl rfl (key lim _ (fun zs hz=>by rw[hv]at hz;cases hz;exact rest) fun a ev _ hz=>by rw[hv]at hz;cases hz)⟩
end R9
namespace R9
open Ax Go Code9z V7 Par Chk K9
variable {pre:Store}
theorem one_len {es ys:List E}{H:Hd}{V:List Vd}(h:es.length=1)(hv:ckV H V es=.ok ys):∃y,ys=[y]:=by
 have:=ckV_len hv
 match ys,this with
 |[y],_=>exact⟨y,rfl⟩
 |[],h'=>simp at h';omega
 |_::_::_,h'=>simp at h';omega
theorem two_len {es ys:List E}{H:Hd}{V:List Vd}(h:es.length=2)(hv:ckV H V es=.ok ys):∃y z,ys=[y,z]:=by
 have:=ckV_len hv
 match ys,this with
 |[y,z],_=>exact⟨y,z,rfl⟩
 |[],h'=>simp at h';omega
 |[_],h'=>simp at h';omega
 |_::_::_::_,h'=>simp at h';omega
theorem Smmk_row (k:Int)(nm on:List UInt8)(od:Int)(es:List E)(bd el:List Sm)(a ref:Int):(Sm.mk k nm on od es bd el a ref).row=[.int .i64 k,.str nm,.str on,.int .i64 od,esV es,ssV bd,ssV el,.int .i64 a,.int .i64 ref]:=Sm.row_eq _
theorem ssV_nil:ssV []=.nilSl:=rfl
theorem stmt_8 (c:CK)(s:Sm)(hf:c.fe=0)(hw:Way c)(hsz:c.V.length+Sm.sz s<1000000000)(hk:s.k=8)(h:formT c.sg.has s.k s.es=true):OkS pre c s:=by
 refine stmt_of c s hf hw hsz h T0 (by rw[hk];rfl) fun ys hys=>?_
 have hes:esT c.H c.V s.k s.es=ckV c.H c.V s.es:=if_neg (by omega)
 rw[hes]at hys
 rw[hk]at h
 obtain⟨y,rfl⟩:=one_len (by simpa [formT] using h) hys
 have eok:=fun lim=>ok_ok (pre:=pre) lim c []
 rw[decide_eq_true hf]at eok
 have eI:=fun wl lim st=>tint_ok wl lim st
 have eT:=fun wl lim st=>tbool_ok wl lim st
 have efl:=fun lim=>rfail_ok (pre:=pre) lim c s.a []
 have eV:=fun lim=>variable_ok (pre:=pre) lim c s.nm [] hw.s
 have ehas:=fun wl lim bx=>c_has (pre:=pre) (wl:=wl) (lim:=lim) (c:=c) (r:=[]) (bx:=bx)
 have eres:=fun wl lim bx=>c_res (pre:=pre) (wl:=wl) (lim:=lim) (c:=c) (r:=[]) (bx:=bx)
 obtain⟨e1,b1,l1⟩:=Smrow_cell (s:=s)
 have b2:(ssV s.bd).view=ssV s.bd:=view_ssV
 have l2:(ssV s.el).view=ssV s.el:=view_ssV
 have m1:isSl (mkL 11 (E.rows [y]))=true:=isSl_mk
 have m2:(mkL 11 (E.rows [y])).view=esV [y]:=rfl
 have m3:rowsL (mkL 11 (E.rows [y]))=[y.row]:=rfl
 have m4:isSz 11 (mkL 11 (E.rows [y]))=true:=by simp[E.rows,fits,E.row_eq]
 have v1:isSl (esV [y])=true:=isSl_esV
 have v2:(esV [y]).view=esV [y]:=view_esV
 have v3:rowsL (esV [y])=[y.row]:=rfl
 have v4:isSz 11 (esV [y])=true:=isSz_E
 have hcs:c.setV c.V=c:=rfl
 have hp:(decide ((8:Int)=1\/(8:Int)=2))=false:=by decide
 have hp2:¬((8:Int)=1\/(8:Int)=2):=by decide
 have k1:keptSn 8 s.on=[]:=rfl
 have k2:keptSd 8 s.od=0:=rfl
 have hR:ckR c.H c.sg.has c.sg.res c.V s [y] T0=if y.ty=tI then .ok (.mk 8 [] [] 0 [y] [] [] s.a 0,c.V) else .error s.a:=by
  unfold ckR fitT
  simp only[hk]
  by_cases q:y.ty=tI
  ·simp[ty1,q,keptS,keptSn,keptSd]
  ·simp[ty1,q]
 rw[hR,hk]
 rw[k1,k2,hp,if_neg hp2,if_neg hp2]
 rw[E.row_eq y]at m3 v3
 by_cases q:y.ty=tI
 ·rw[if_pos q]
  simp only
  unfold TG TQ
  rw[Smmk_row,Sm.row_eq s,hk,hcs,ssV_nil]
  generalize mkL 11 (E.rows [y])=M at *
  generalize esV [y]=yv at *
  generalize esV s.es=kv at *
  generalize ssV s.bd=bv at *
  generalize ssV s.el=lv at *
  generalize c.obj=o at *
  simp[-a_load,-a_store,a_loadE,tail45,sndC,s45,eok,eI,q,m2,v1,v3,v4,W_draw0,noBoxes,paste,AV.view]
 ·rw[if_neg q]
  simp only
  refine⟨c.V,[.int .i64 8,.str [],.str [],.int .i64 0,esV [y],.nilSl,.nilSl,.int .i64 s.a,.int .i64 0],⟨_,_,_,_,_,_,_,_,_,rfl,v1,rfl,rfl⟩,?_⟩
  unfold TG TQ
  rw[Sm.row_eq s,hk,hcs]
  generalize mkL 11 (E.rows [y])=M at *
  generalize esV [y]=yv at *
  generalize esV s.es=kv at *
  generalize ssV s.bd=bv at *
  generalize ssV s.el=lv at *
  generalize (c.fail s.a).obj=o2 at *
  generalize c.obj=o at *
  simp[-a_load,-a_store,a_loadE,tail45,sndC,s45,eok,eI,K9.dI,q,efl,m2,v1,v3,v4,W_draw0,noBoxes,paste,AV.view]
theorem stmt_4 (c:CK)(s:Sm)(hf:c.fe=0)(hw:Way c)(hsz:c.V.length+Sm.sz s<1000000000)(hk:s.k=4)(h:formT c.sg.has s.k s.es=true):OkS pre c s:=by
 refine stmt_of c s hf hw hsz h T0 (by rw[hk];rfl) fun ys hys=>?_
 have hes:esT c.H c.V s.k s.es=ckV c.H c.V s.es:=if_neg (by omega)
 rw[hes]at hys
 rw[hk]at h
 obtain⟨y,z,rfl⟩:=two_len (by
  unfold formT at h
  rw[if_neg (by decide),if_pos rfl]at h
  match hh:s.es,h with
  |[_,_],_=>rfl) hys
 have eok:=fun lim=>ok_ok (pre:=pre) lim c []
 rw[decide_eq_true hf]at eok
 have eI:=fun wl lim st=>tint_ok wl lim st
 have eT:=fun wl lim st=>tbool_ok wl lim st
 have efl:=fun lim=>rfail_ok (pre:=pre) lim c s.a []
 have eV:=fun lim=>variable_ok (pre:=pre) lim c s.nm [] hw.s
 have ehas:=fun wl lim bx=>c_has (pre:=pre) (wl:=wl) (lim:=lim) (c:=c) (r:=[]) (bx:=bx)
 have eres:=fun wl lim bx=>c_res (pre:=pre) (wl:=wl) (lim:=lim) (c:=c) (r:=[]) (bx:=bx)
 obtain⟨e1,b1,l1⟩:=Smrow_cell (s:=s)
 have b2:(ssV s.bd).view=ssV s.bd:=view_ssV
 have l2:(ssV s.el).view=ssV s.el:=view_ssV
 have m1:isSl (mkL 11 (E.rows [y,z]))=true:=isSl_mk
 have m2:(mkL 11 (E.rows [y,z])).view=esV [y,z]:=rfl
 have m3:rowsL (mkL 11 (E.rows [y,z]))=[y.row,z.row]:=rfl
 have m4:isSz 11 (mkL 11 (E.rows [y,z]))=true:=by simp[E.rows,fits,E.row_eq]
 have v1:isSl (esV [y,z])=true:=isSl_esV
 have v2:(esV [y,z]).view=esV [y,z]:=view_esV
 have v3:rowsL (esV [y,z])=[y.row,z.row]:=rfl
 have v4:isSz 11 (esV [y,z])=true:=isSz_E
 have hcs:c.setV c.V=c:=rfl
 have hp:(decide ((4:Int)=1\/(4:Int)=2))=false:=by decide
 have hp2:¬((4:Int)=1\/(4:Int)=2):=by decide
 have k1:keptSn 4 s.on=[]:=rfl
 have k2:keptSd 4 s.od=0:=rfl
 have hR:ckR c.H c.sg.has c.sg.res c.V s [y,z] T0=if y.ty=z.ty then .ok (.mk 4 [] [] 0 [y,z] [] [] s.a 0,c.V) else .error s.a:=by
  unfold ckR fitT
  simp only[hk]
  by_cases q:y.ty=z.ty
  ·simp[ty1,ty2,q,keptS,keptSn,keptSd]
  ·simp[ty1,ty2,q]
 rw[hR,hk]
 rw[k1,k2,hp,if_neg hp2,if_neg hp2]
 rw[E.row_eq y,E.row_eq z]at m3 v3
 by_cases q:y.ty=z.ty
 ·rw[if_pos q]
  have q:(y.ty=z.ty)=True:=eq_true q
  simp only
  unfold TG TQ
  rw[Smmk_row,Sm.row_eq s,hk,hcs,ssV_nil]
  generalize mkL 11 (E.rows [y,z])=M at *
  generalize esV [y,z]=yv at *
  generalize esV s.es=kv at *
  generalize ssV s.bd=bv at *
  generalize ssV s.el=lv at *
  generalize c.obj=o at *
  simp[-a_load,-a_store,a_loadE,tail45,sndC,s45,eok,dU,q,m2,v1,v3,v4,W_draw0,noBoxes,paste,AV.view]
 ·rw[if_neg q]
  simp only
  refine⟨c.V,[.int .i64 4,.str [],.str [],.int .i64 0,esV [y,z],.nilSl,.nilSl,.int .i64 s.a,.int .i64 0],⟨_,_,_,_,_,_,_,_,_,rfl,v1,rfl,rfl⟩,?_⟩
  unfold TG TQ
  rw[Sm.row_eq s,hk,hcs]
  generalize mkL 11 (E.rows [y,z])=M at *
  generalize esV [y,z]=yv at *
  generalize esV s.es=kv at *
  generalize ssV s.bd=bv at *
  generalize ssV s.el=lv at *
  generalize (c.fail s.a).obj=o2 at *
  generalize c.obj=o at *
  simp[-a_load,-a_store,a_loadE,tail45,sndC,s45,eok,dU,q,efl,m2,v1,v3,v4,W_draw0,noBoxes,paste,AV.view]
theorem stmt_9 (c:CK)(s:Sm)(hf:c.fe=0)(hw:Way c)(hsz:c.V.length+Sm.sz s<1000000000)(hk:s.k=9)(h:formT c.sg.has s.k s.es=true):OkS pre c s:=by
 refine stmt_of c s hf hw hsz h T0 (by rw[hk];rfl) fun ys hys=>?_
 obtain⟨y,rfl⟩:∃y,ys=[y]:=by
  unfold esT at hys
  rw[hk]at hys h
  unfold formT at h
  rw[if_neg (by decide),if_neg (by decide),if_neg (by decide),if_pos rfl]at h
  rw[if_pos rfl]at hys
  match hh:s.es,h with
  |[e],_=>
   rw[hh]at hys
   simp only at hys
   cases hx:ckE c.H c.V e with
   |error a=>rw[hx]at hys;cases hys
   |ok y=>rw[hx]at hys;cases hys;exact⟨y,rfl⟩
 have eok:=fun lim=>ok_ok (pre:=pre) lim c []
 rw[decide_eq_true hf]at eok
 have eI:=fun wl lim st=>tint_ok wl lim st
 have eT:=fun wl lim st=>tbool_ok wl lim st
 have efl:=fun lim=>rfail_ok (pre:=pre) lim c s.a []
 have eV:=fun lim=>variable_ok (pre:=pre) lim c s.nm [] hw.s
 have ehas:=fun wl lim bx=>c_has (pre:=pre) (wl:=wl) (lim:=lim) (c:=c) (r:=[]) (bx:=bx)
 have eres:=fun wl lim bx=>c_res (pre:=pre) (wl:=wl) (lim:=lim) (c:=c) (r:=[]) (bx:=bx)
 obtain⟨e1,b1,l1⟩:=Smrow_cell (s:=s)
 have b2:(ssV s.bd).view=ssV s.bd:=view_ssV
 have l2:(ssV s.el).view=ssV s.el:=view_ssV
 have m1:isSl (mkL 11 (E.rows [y]))=true:=isSl_mk
 have m2:(mkL 11 (E.rows [y])).view=esV [y]:=rfl
 have m3:rowsL (mkL 11 (E.rows [y]))=[y.row]:=rfl
 have m4:isSz 11 (mkL 11 (E.rows [y]))=true:=by simp[E.rows,fits,E.row_eq]
 have v1:isSl (esV [y])=true:=isSl_esV
 have v2:(esV [y]).view=esV [y]:=view_esV
 have v3:rowsL (esV [y])=[y.row]:=rfl
 have v4:isSz 11 (esV [y])=true:=isSz_E
 have hcs:c.setV c.V=c:=rfl
 have hp:(decide ((9:Int)=1\/(9:Int)=2))=false:=by decide
 have hp2:¬((9:Int)=1\/(9:Int)=2):=by decide
 have k1:keptSn 9 s.on=[]:=rfl
 have k2:keptSd 9 s.od=0:=rfl
 have hR:ckR c.H c.sg.has c.sg.res c.V s [y] T0=.ok (.mk 9 [] [] 0 [y] [] [] s.a 0,c.V):=by
  unfold ckR fitT
  simp[hk,keptS,keptSn,keptSd]
 rw[hR,hk]
 rw[k1,k2,hp,if_neg hp2,if_neg hp2]
 rw[E.row_eq y]at m3 v3
 simp only
 unfold TG TQ
 rw[Smmk_row,Sm.row_eq s,hk,hcs,ssV_nil]
 generalize mkL 11 (E.rows [y])=M at *
 generalize esV [y]=yv at *
 generalize esV s.es=kv at *
 generalize ssV s.bd=bv at *
 generalize ssV s.el=lv at *
 generalize c.obj=o at *
 simp[-a_load,-a_store,tail45,sndC,s45,eok,m2,v1,paste,AV.view]
theorem stmt_3 (c:CK)(s:Sm)(hf:c.fe=0)(hw:Way c)(hsz:c.V.length+Sm.sz s<1000000000)(hk:s.k=3)(h:formT c.sg.has s.k s.es=true):OkS pre c s:=by
 refine stmt_of c s hf hw hsz h T0 (by rw[hk];rfl) fun ys hys=>?_
 have hes:esT c.H c.V s.k s.es=ckV c.H c.V s.es:=if_neg (by omega)
 rw[hes]at hys
 rw[hk]at h
 obtain⟨y,rfl⟩:=one_len (by simpa [formT] using h) hys
 have eok:=fun lim=>ok_ok (pre:=pre) lim c []
 rw[decide_eq_true hf]at eok
 have eI:=fun wl lim st=>tint_ok wl lim st
 have eT:=fun wl lim st=>tbool_ok wl lim st
 have efl:=fun lim=>rfail_ok (pre:=pre) lim c s.a []
 have eV:=fun lim=>variable_ok (pre:=pre) lim c s.nm [] hw.s
 have ehas:=fun wl lim bx=>c_has (pre:=pre) (wl:=wl) (lim:=lim) (c:=c) (r:=[]) (bx:=bx)
 have eres:=fun wl lim bx=>c_res (pre:=pre) (wl:=wl) (lim:=lim) (c:=c) (r:=[]) (bx:=bx)
 obtain⟨e1,b1,l1⟩:=Smrow_cell (s:=s)
 have b2:(ssV s.bd).view=ssV s.bd:=view_ssV
 have l2:(ssV s.el).view=ssV s.el:=view_ssV
 have m1:isSl (mkL 11 (E.rows [y]))=true:=isSl_mk
 have m2:(mkL 11 (E.rows [y])).view=esV [y]:=rfl
 have m3:rowsL (mkL 11 (E.rows [y]))=[y.row]:=rfl
 have m4:isSz 11 (mkL 11 (E.rows [y]))=true:=by simp[E.rows,fits,E.row_eq]
 have v1:isSl (esV [y])=true:=isSl_esV
 have v2:(esV [y]).view=esV [y]:=view_esV
 have v3:rowsL (esV [y])=[y.row]:=rfl
 have v4:isSz 11 (esV [y])=true:=isSz_E
 have hcs:c.setV c.V=c:=rfl
 have hp:(decide ((3:Int)=1\/(3:Int)=2))=false:=by decide
 have hp2:¬((3:Int)=1\/(3:Int)=2):=by decide
 have k1:keptSn 3 s.on=[]:=rfl
 have k2:keptSd 3 s.od=0:=rfl
 have hR:ckR c.H c.sg.has c.sg.res c.V s [y] T0=match varT c.H c.V s.nm with
   |some (u,r)=>if u=y.ty then .ok (.mk 3 s.nm [] 0 [y] [] [] s.a r,c.V) else .error s.a
   |none=>.error s.a:=by
  unfold ckR fitT
  simp only[hk]
  cases varT c.H c.V s.nm with
  |none=>simp
  |some x=>by_cases q:x.1=y.ty<;>simp[ty1,q,keptS,keptSn,keptSd]
 rw[hR,hk]
 rw[k1,k2,hp,if_neg hp2,if_neg hp2]
 rw[E.row_eq y]at m3 v3
 cases hx:varT c.H c.V s.nm with
 |none=>
  rw[hx]at eV
  simp only
  refine⟨c.V,[.int .i64 3,.str [],.str [],.int .i64 0,esV [y],.nilSl,.nilSl,.int .i64 s.a,.int .i64 0],⟨_,_,_,_,_,_,_,_,_,rfl,v1,rfl,rfl⟩,?_⟩
  unfold TG TQ
  rw[Sm.row_eq s,hk,hcs]
  generalize mkL 11 (E.rows [y])=M at *
  generalize esV [y]=yv at *
  generalize esV s.es=kv at *
  generalize ssV s.bd=bv at *
  generalize ssV s.el=lv at *
  generalize (c.fail s.a).obj=o2 at *
  generalize c.obj=o at *
  simp[-a_load,-a_store,tail45,sndC,s45,eok,eV,varV,efl,m2,v1,W_draw0,noBoxes,paste,AV.view]
 |some x=>
  obtain⟨u,r⟩:=x
  rw[hx]at eV
  simp only
  by_cases q:u=y.ty
  ·rw[if_pos q]
   have q:(u=y.ty)=True:=eq_true q
   simp only
   unfold TG TQ
   rw[Smmk_row,Sm.row_eq s,hk,hcs,ssV_nil]
   generalize mkL 11 (E.rows [y])=M at *
   generalize esV [y]=yv at *
   generalize esV s.es=kv at *
   generalize ssV s.bd=bv at *
   generalize ssV s.el=lv at *
   generalize c.obj=o at *
   simp[-a_load,-a_store,a_loadE,tail45,sndC,s45,eok,eV,varV,dU,q,m2,v1,v3,v4,W_draw0,noBoxes,paste,AV.view]
  ·rw[if_neg q]
   simp only
   refine⟨c.V,[.int .i64 3,.str [],.str [],.int .i64 0,esV [y],.nilSl,.nilSl,.int .i64 s.a,.int .i64 r],⟨_,_,_,_,_,_,_,_,_,rfl,v1,rfl,rfl⟩,?_⟩
   unfold TG TQ
   rw[Sm.row_eq s,hk,hcs]
   generalize mkL 11 (E.rows [y])=M at *
   generalize esV [y]=yv at *
   generalize esV s.es=kv at *
   generalize ssV s.bd=bv at *
   generalize ssV s.el=lv at *
   generalize (c.fail s.a).obj=o2 at *
   generalize c.obj=o at *
   simp[-a_load,-a_store,a_loadE,tail45,sndC,s45,eok,eV,varV,dU,q,efl,m2,v1,v3,v4,W_draw0,noBoxes,paste,AV.view]
theorem stmt_7t (c:CK)(s:Sm)(hf:c.fe=0)(hw:Way c)(hsz:c.V.length+Sm.sz s<1000000000)(hk:s.k=7)(h:formT c.sg.has s.k s.es=true)(hh:c.sg.has=true):OkS pre c s:=by
 refine stmt_of c s hf hw hsz h T0 (by rw[hk];rfl) fun ys hys=>?_
 have hes:esT c.H c.V s.k s.es=ckV c.H c.V s.es:=if_neg (by omega)
 rw[hes]at hys
 rw[hk]at h
 obtain⟨y,rfl⟩:=one_len (by rw[hh]at h;simpa [formT] using h) hys
 have eok:=fun lim=>ok_ok (pre:=pre) lim c []
 rw[decide_eq_true hf]at eok
 have eI:=fun wl lim st=>tint_ok wl lim st
 have eT:=fun wl lim st=>tbool_ok wl lim st
 have efl:=fun lim=>rfail_ok (pre:=pre) lim c s.a []
 have eV:=fun lim=>variable_ok (pre:=pre) lim c s.nm [] hw.s
 have ehas:=fun wl lim bx=>c_has (pre:=pre) (wl:=wl) (lim:=lim) (c:=c) (r:=[]) (bx:=bx)
 have eres:=fun wl lim bx=>c_res (pre:=pre) (wl:=wl) (lim:=lim) (c:=c) (r:=[]) (bx:=bx)
 obtain⟨e1,b1,l1⟩:=Smrow_cell (s:=s)
 have b2:(ssV s.bd).view=ssV s.bd:=view_ssV
 have l2:(ssV s.el).view=ssV s.el:=view_ssV
 have m1:isSl (mkL 11 (E.rows [y]))=true:=isSl_mk
 have m2:(mkL 11 (E.rows [y])).view=esV [y]:=rfl
 have m3:rowsL (mkL 11 (E.rows [y]))=[y.row]:=rfl
 have m4:isSz 11 (mkL 11 (E.rows [y]))=true:=by simp[E.rows,fits,E.row_eq]
 have v1:isSl (esV [y])=true:=isSl_esV
 have v2:(esV [y]).view=esV [y]:=view_esV
 have v3:rowsL (esV [y])=[y.row]:=rfl
 have v4:isSz 11 (esV [y])=true:=isSz_E
 have hcs:c.setV c.V=c:=rfl
 have hp:(decide ((7:Int)=1\/(7:Int)=2))=false:=by decide
 have hp2:¬((7:Int)=1\/(7:Int)=2):=by decide
 have k1:keptSn 7 s.on=[]:=rfl
 have k2:keptSd 7 s.od=0:=rfl
 have hR:ckR c.H c.sg.has c.sg.res c.V s [y] T0=if y.ty=c.sg.res then .ok (.mk 7 [] [] 0 [y] [] [] s.a 0,c.V) else .error s.a:=by
  unfold ckR fitT
  simp only[hk]
  by_cases q:y.ty=c.sg.res
  ·simp[ty1,q,keptS,keptSn,keptSd]
  ·simp[ty1,q]
 rw[hh]at ehas
 rw[hR,hk]
 rw[k1,k2,hp,if_neg hp2,if_neg hp2]
 rw[E.row_eq y]at m3 v3
 by_cases q:y.ty=c.sg.res
 ·rw[if_pos q]
  have q:(y.ty=c.sg.res)=True:=eq_true q
  simp only
  unfold TG TQ
  rw[Smmk_row,Sm.row_eq s,hk,hcs,ssV_nil]
  generalize mkL 11 (E.rows [y])=M at *
  generalize esV [y]=yv at *
  generalize esV s.es=kv at *
  generalize ssV s.bd=bv at *
  generalize ssV s.el=lv at *
  generalize c.obj=o at *
  simp[-a_load,-a_store,a_loadE,tail45,sndC,s45,eok,ehas,eres,dU,q,m2,v1,v3,v4,W_draw0,noBoxes,paste,AV.view]
 ·rw[if_neg q]
  simp only
  refine⟨c.V,[.int .i64 7,.str [],.str [],.int .i64 0,esV [y],.nilSl,.nilSl,.int .i64 s.a,.int .i64 0],⟨_,_,_,_,_,_,_,_,_,rfl,v1,rfl,rfl⟩,?_⟩
  unfold TG TQ
  rw[Sm.row_eq s,hk,hcs]
  generalize mkL 11 (E.rows [y])=M at *
  generalize esV [y]=yv at *
  generalize esV s.es=kv at *
  generalize ssV s.bd=bv at *
  generalize ssV s.el=lv at *
  generalize (c.fail s.a).obj=o2 at *
  generalize c.obj=o at *
  simp[-a_load,-a_store,a_loadE,tail45,sndC,s45,eok,ehas,eres,dU,q,efl,m2,v1,v3,v4,W_draw0,noBoxes,paste,AV.view]
theorem stmt_7f (c:CK)(s:Sm)(hf:c.fe=0)(hw:Way c)(hsz:c.V.length+Sm.sz s<1000000000)(hk:s.k=7)(h:formT c.sg.has s.k s.es=true)(hh:c.sg.has=false):OkS pre c s:=by
 refine stmt_of c s hf hw hsz h T0 (by rw[hk];rfl) fun ys hys=>?_
 have hes:esT c.H c.V s.k s.es=ckV c.H c.V s.es:=if_neg (by omega)
 rw[hes]at hys
 rw[hk]at h
 obtain rfl:ys=[]:=by
  have h0:s.es=[]:=by rw[hh]at h;simpa [formT] using h
  have:=ckV_len hys
  rw[h0]at this
  exact List.eq_nil_of_length_eq_zero this
 have eok:=fun lim=>ok_ok (pre:=pre) lim c []
 rw[decide_eq_true hf]at eok
 have eI:=fun wl lim st=>tint_ok wl lim st
 have eT:=fun wl lim st=>tbool_ok wl lim st
 have efl:=fun lim=>rfail_ok (pre:=pre) lim c s.a []
 have eV:=fun lim=>variable_ok (pre:=pre) lim c s.nm [] hw.s
 have ehas:=fun wl lim bx=>c_has (pre:=pre) (wl:=wl) (lim:=lim) (c:=c) (r:=[]) (bx:=bx)
 have eres:=fun wl lim bx=>c_res (pre:=pre) (wl:=wl) (lim:=lim) (c:=c) (r:=[]) (bx:=bx)
 obtain⟨e1,b1,l1⟩:=Smrow_cell (s:=s)
 have b2:(ssV s.bd).view=ssV s.bd:=view_ssV
 have l2:(ssV s.el).view=ssV s.el:=view_ssV
 have m1:isSl (mkL 11 (E.rows []))=true:=isSl_mk
 have m2:(mkL 11 (E.rows [])).view=esV []:=rfl
 have m3:rowsL (mkL 11 (E.rows []))=[]:=rfl
 have m4:isSz 11 (mkL 11 (E.rows []))=true:=by simp[E.rows,fits]
 have v1:isSl (esV [])=true:=isSl_esV
 have v2:(esV []).view=esV []:=view_esV
 have v3:rowsL (esV [])=[]:=rfl
 have v4:isSz 11 (esV [])=true:=isSz_E
 have hcs:c.setV c.V=c:=rfl
 have hp:(decide ((7:Int)=1\/(7:Int)=2))=false:=by decide
 have hp2:¬((7:Int)=1\/(7:Int)=2):=by decide
 have k1:keptSn 7 s.on=[]:=rfl
 have k2:keptSd 7 s.od=0:=rfl
 have hR:ckR c.H c.sg.has c.sg.res c.V s [] T0=.ok (.mk 7 [] [] 0 [] [] [] s.a 0,c.V):=by
  unfold ckR fitT
  simp[hk,keptS,keptSn,keptSd]
 rw[hh]at ehas
 rw[hR,hk]
 rw[k1,k2,hp,if_neg hp2,if_neg hp2]
 simp only
 unfold TG TQ
 rw[Smmk_row,Sm.row_eq s,hk,hcs,ssV_nil]
 generalize mkL 11 (E.rows [])=M at *
 generalize esV []=yv at *
 generalize esV s.es=kv at *
 generalize ssV s.bd=bv at *
 generalize ssV s.el=lv at *
 generalize c.obj=o at *
 simp[-a_load,-a_store,tail45,sndC,s45,eok,ehas,m2,v1,W_draw0,noBoxes,paste,AV.view]
theorem stmt_7 (c:CK)(s:Sm)(hf:c.fe=0)(hw:Way c)(hsz:c.V.length+Sm.sz s<1000000000)(hk:s.k=7)(h:formT c.sg.has s.k s.es=true):OkS pre c s:=by
 cases hh:c.sg.has with
 |true=>exact stmt_7t c s hf hw hsz hk h hh
 |false=>exact stmt_7f c s hf hw hsz hk h hh
theorem blockF_ok (lim:Nat)(c:CK)(l:List Sm)(hf:c.fe≠0):(orcL S).call 0 lim 28 [.ptr pre.length 0 0 0,ssV l] (pre++[c.obj])=some (.nilSl,pre++[c.obj]):=by
 have hsl:isSl (ssV l)=true:=isSl_ssV
 have hvw:(ssV l).view=ssV l:=view_ssV
 have hrE:rowsL (ssV l)=Sm.rows l:=rowsL_lstV
 have eok:=fun lim=>ok_ok (pre:=pre) lim c []
 rw[decide_eq_false hf]at eok
 generalize ssV l=lv at *
 generalize c.obj=o at *
 refine call_run (sf:=s28) rfl rfl rfl ?_
 simp[-a_load,-a_store,s28]
 rw[W_round s28_l0.eq_1]
 by_cases h:0<l.length
 ·simp[-a_load,-a_store,hsl,hvw,hrE,h,eok]
 ·simp[-a_load,-a_store,hsl,hvw,hrE,h]
theorem stmt_6 (c:CK)(s:Sm)(hf:c.fe=0)(hw:Way c)(hsz:c.V.length+Sm.sz s<1000000000)(hk:s.k=6)(h:formT c.sg.has s.k s.es=true)(hbd:∀d:CK,d.H=c.H->d.sg=c.sg->d.fe=0->Way d->d.V.length+Sm.szs s.bd<1000000000->OkB pre d s.bd):OkS pre c s:=by
 refine stmt_of c s hf hw hsz h T0 (by rw[hk];rfl) fun ys hys=>?_
 have hes:esT c.H c.V s.k s.es=ckV c.H c.V s.es:=if_neg (by omega)
 rw[hes]at hys
 rw[hk]at h
 obtain⟨y,rfl⟩:=one_len (by simpa [formT] using h) hys
 have eok:=fun lim=>ok_ok (pre:=pre) lim c []
 rw[decide_eq_true hf]at eok
 have eI:=fun wl lim st=>tint_ok wl lim st
 have eT:=fun wl lim st=>tbool_ok wl lim st
 have efl:=fun lim=>rfail_ok (pre:=pre) lim c s.a []
 have eV:=fun lim=>variable_ok (pre:=pre) lim c s.nm [] hw.s
 have ehas:=fun wl lim bx=>c_has (pre:=pre) (wl:=wl) (lim:=lim) (c:=c) (r:=[]) (bx:=bx)
 have eres:=fun wl lim bx=>c_res (pre:=pre) (wl:=wl) (lim:=lim) (c:=c) (r:=[]) (bx:=bx)
 obtain⟨e1,b1,l1⟩:=Smrow_cell (s:=s)
 have b2:(ssV s.bd).view=ssV s.bd:=view_ssV
 have l2:(ssV s.el).view=ssV s.el:=view_ssV
 have m1:isSl (mkL 11 (E.rows [y]))=true:=isSl_mk
 have m2:(mkL 11 (E.rows [y])).view=esV [y]:=rfl
 have m3:rowsL (mkL 11 (E.rows [y]))=[y.row]:=rfl
 have m4:isSz 11 (mkL 11 (E.rows [y]))=true:=by simp[E.rows,fits,E.row_eq]
 have v1:isSl (esV [y])=true:=isSl_esV
 have v2:(esV [y]).view=esV [y]:=view_esV
 have v3:rowsL (esV [y])=[y.row]:=rfl
 have v4:isSz 11 (esV [y])=true:=isSz_E
 have hcs:c.setV c.V=c:=rfl
 have hp:(decide ((6:Int)=1\/(6:Int)=2))=false:=by decide
 have hp2:¬((6:Int)=1\/(6:Int)=2):=by decide
 have k1:keptSn 6 s.on=[]:=rfl
 have k2:keptSd 6 s.od=0:=rfl
 have hR:ckR c.H c.sg.has c.sg.res c.V s [y] T0=if y.ty=tB then (match ckB c.H c.sg.has c.sg.res c.V s.bd with
   |.error x=>.error x
   |.ok (b,W1)=>.ok (.mk 6 [] [] 0 [y] b [] s.a 0,W1)) else .error s.a:=by
  unfold ckR fitT
  simp only[hk]
  by_cases q:y.ty=tB
  ·simp[ty1,q,keptS,keptSn,keptSd]<;>rfl
  ·simp[ty1,q]
 have hz:=Sm.sz_eq s
 have hB:=hbd c rfl rfl hf hw (by omega)
 unfold OkB at hB
 rw[hR,hk]
 rw[k1,k2,hp,if_neg hp2,if_neg hp2]
 rw[E.row_eq y]at m3 v3
 by_cases q:y.ty=tB
 ·rw[if_pos q]
  cases hb:ckB c.H c.sg.has c.sg.res c.V s.bd with
  |error a=>
   rw[hb]at hB
   simp only at hB ⊢
   obtain⟨W,v,w1,hB⟩:=hB (pre.length+1)
   have w2:isSl v.view=true:=by rw[isSl_view];exact w1
   have w3:v.view.view=v.view:=view_view v
   refine⟨W,[.int .i64 6,.str [],.str [],.int .i64 0,esV [y],v.view,.nilSl,.int .i64 s.a,.int .i64 0],⟨_,_,_,_,_,_,_,_,_,rfl,v1,w2,rfl⟩,?_⟩
   unfold TG TQ
   rw[Sm.row_eq s,hk]
   generalize mkL 11 (E.rows [y])=M at *
   generalize esV [y]=yv at *
   generalize esV s.es=kv at *
   generalize ssV s.bd=bv at *
   generalize ssV s.el=lv at *
   generalize ((c.setV W).fail a).obj=o2 at *
   generalize c.obj=o at *
   simp[-a_load,-a_store,a_loadE,tail45,sndC,s45,eok,eT,q,hB,w1,w2,m2,v1,v3,v4,b2,W_draw0,noBoxes,paste,AV.view]
  |ok x=>
   obtain⟨b,W1⟩:=x
   rw[hb]at hB
   simp only at hB ⊢
   unfold TG TQ
   rw[Smmk_row,Sm.row_eq s,hk,ssV_nil]
   have w1:isSl (mkL 9 (Sm.rows b))=true:=isSl_mk
   have w2:(mkL 9 (Sm.rows b)).view=ssV b:=rfl
   have w3:isSl (ssV b)=true:=isSl_ssV
   have w4:(ssV b).view=ssV b:=view_ssV
   generalize mkL 9 (Sm.rows b)=BM at *
   generalize ssV b=BV at *
   generalize mkL 11 (E.rows [y])=M at *
   generalize esV [y]=yv at *
   generalize esV s.es=kv at *
   generalize ssV s.bd=bv at *
   generalize ssV s.el=lv at *
   generalize (c.setV W1).obj=o2 at *
   generalize c.obj=o at *
   simp[-a_load,-a_store,a_loadE,tail45,sndC,s45,eok,eT,q,hB,w1,w2,w3,m2,v1,v3,v4,b2,W_draw0,noBoxes,paste,AV.view]
 ·rw[if_neg q]
  simp only
  refine⟨c.V,[.int .i64 6,.str [],.str [],.int .i64 0,esV [y],.nilSl,.nilSl,.int .i64 s.a,.int .i64 0],⟨_,_,_,_,_,_,_,_,_,rfl,v1,rfl,rfl⟩,?_⟩
  unfold TG TQ
  rw[Sm.row_eq s,hk,hcs]
  generalize mkL 11 (E.rows [y])=M at *
  generalize esV [y]=yv at *
  generalize esV s.es=kv at *
  generalize ssV s.bd=bv at *
  generalize ssV s.el=lv at *
  generalize (c.fail s.a).obj=o2 at *
  generalize c.obj=o at *
  simp[-a_load,-a_store,a_loadE,tail45,sndC,s45,eok,eT,dB,q,efl,m2,v1,v3,v4,W_draw0,noBoxes,paste,AV.view]
theorem stmt_5 (c:CK)(s:Sm)(hf:c.fe=0)(hw:Way c)(hsz:c.V.length+Sm.sz s<1000000000)(hk:s.k=5)(h:formT c.sg.has s.k s.es=true)(hbd:∀d:CK,d.H=c.H->d.sg=c.sg->d.fe=0->Way d->d.V.length+Sm.szs s.bd<1000000000->OkB pre d s.bd)(hbe:∀d:CK,d.H=c.H->d.sg=c.sg->d.fe=0->Way d->d.V.length+Sm.szs s.el<1000000000->OkB pre d s.el):OkS pre c s:=by
 refine stmt_of c s hf hw hsz h T0 (by rw[hk];rfl) fun ys hys=>?_
 have hes:esT c.H c.V s.k s.es=ckV c.H c.V s.es:=if_neg (by omega)
 rw[hes]at hys
 rw[hk]at h
 obtain⟨y,rfl⟩:=one_len (by simpa [formT] using h) hys
 have eok:=fun lim=>ok_ok (pre:=pre) lim c []
 rw[decide_eq_true hf]at eok
 have eI:=fun wl lim st=>tint_ok wl lim st
 have eT:=fun wl lim st=>tbool_ok wl lim st
 have efl:=fun lim=>rfail_ok (pre:=pre) lim c s.a []
 have eV:=fun lim=>variable_ok (pre:=pre) lim c s.nm [] hw.s
 have ehas:=fun wl lim bx=>c_has (pre:=pre) (wl:=wl) (lim:=lim) (c:=c) (r:=[]) (bx:=bx)
 have eres:=fun wl lim bx=>c_res (pre:=pre) (wl:=wl) (lim:=lim) (c:=c) (r:=[]) (bx:=bx)
 obtain⟨e1,b1,l1⟩:=Smrow_cell (s:=s)
 have b2:(ssV s.bd).view=ssV s.bd:=view_ssV
 have l2:(ssV s.el).view=ssV s.el:=view_ssV
 have m1:isSl (mkL 11 (E.rows [y]))=true:=isSl_mk
 have m2:(mkL 11 (E.rows [y])).view=esV [y]:=rfl
 have m3:rowsL (mkL 11 (E.rows [y]))=[y.row]:=rfl
 have m4:isSz 11 (mkL 11 (E.rows [y]))=true:=by simp[E.rows,fits,E.row_eq]
 have v1:isSl (esV [y])=true:=isSl_esV
 have v2:(esV [y]).view=esV [y]:=view_esV
 have v3:rowsL (esV [y])=[y.row]:=rfl
 have v4:isSz 11 (esV [y])=true:=isSz_E
 have hcs:c.setV c.V=c:=rfl
 have hp:(decide ((5:Int)=1\/(5:Int)=2))=false:=by decide
 have hp2:¬((5:Int)=1\/(5:Int)=2):=by decide
 have k1:keptSn 5 s.on=[]:=rfl
 have k2:keptSd 5 s.od=0:=rfl
 have hR:ckR c.H c.sg.has c.sg.res c.V s [y] T0=if y.ty=tB then (match ckB c.H c.sg.has c.sg.res c.V s.bd with
   |.error x=>.error x
   |.ok (b,W1)=>match ckB c.H c.sg.has c.sg.res W1 s.el with
    |.error x=>.error x
    |.ok (d,W2)=>.ok (.mk 5 [] [] 0 [y] b d s.a 0,W2)) else .error s.a:=by
  unfold ckR fitT
  simp only[hk]
  by_cases q:y.ty=tB
  ·simp[ty1,q,keptS,keptSn,keptSd]<;>rfl
  ·simp[ty1,q]
 have hz:=Sm.sz_eq s
 have hB:=hbd c rfl rfl hf hw (by omega)
 unfold OkB at hB
 rw[hR,hk]
 rw[k1,k2,hp,if_neg hp2,if_neg hp2]
 rw[E.row_eq y]at m3 v3
 by_cases q:y.ty=tB
 ·rw[if_pos q]
  cases hb:ckB c.H c.sg.has c.sg.res c.V s.bd with
  |error a=>
   rw[hb]at hB
   simp only at hB ⊢
   obtain⟨W,v,w1,hB⟩:=hB (pre.length+1)
   have w2:isSl v.view=true:=by rw[isSl_view];exact w1
   have w3:v.view.view=v.view:=view_view v
   have hF:=fun lim=>blockF_ok (pre:=pre) lim ((c.setV W).fail a) s.el fail_fe
   refine⟨W,[.int .i64 5,.str [],.str [],.int .i64 0,esV [y],v.view,.nilSl,.int .i64 s.a,.int .i64 0],⟨_,_,_,_,_,_,_,_,_,rfl,v1,w2,rfl⟩,?_⟩
   unfold TG TQ
   rw[Sm.row_eq s,hk]
   generalize mkL 11 (E.rows [y])=M at *
   generalize esV [y]=yv at *
   generalize esV s.es=kv at *
   generalize ssV s.bd=bv at *
   generalize ssV s.el=lv at *
   generalize ((c.setV W).fail a).obj=o2 at *
   generalize c.obj=o at *
   simp[-a_load,-a_store,a_loadE,tail45,sndC,s45,eok,eT,q,hB,hF,w1,w2,m2,v1,v3,v4,b2,l2,W_draw0,noBoxes,paste,AV.view]
  |ok x=>
   obtain⟨b,W1⟩:=x
   rw[hb]at hB
   simp only at hB ⊢
   obtain⟨g1,g2⟩:=ckB_wt hw.V hb
   have hL:=hbe (c.setV W1) rfl rfl hf (way_set hw g1 (by omega)) (by show W1.length+_<_;omega)
   unfold OkB at hL
   have hcd:ckB (c.setV W1).H (c.setV W1).sg.has (c.setV W1).sg.res (c.setV W1).V s.el=ckB c.H c.sg.has c.sg.res W1 s.el:=rfl
   rw[hcd]at hL
   have w1:isSl (mkL 9 (Sm.rows b))=true:=isSl_mk
   have w2:(mkL 9 (Sm.rows b)).view=ssV b:=rfl
   have w3:isSl (ssV b)=true:=isSl_ssV
   have w4:(ssV b).view=ssV b:=view_ssV
   cases hc:ckB c.H c.sg.has c.sg.res W1 s.el with
   |error a=>
    rw[hc]at hL
    simp only at hL ⊢
    obtain⟨W,v,u1,hL⟩:=hL (pre.length+1)
    have u2:isSl v.view=true:=by rw[isSl_view];exact u1
    have u3:v.view.view=v.view:=view_view v
    have hss:(c.setV W1).setV W=c.setV W:=rfl
    rw[hss]at hL
    refine⟨W,[.int .i64 5,.str [],.str [],.int .i64 0,esV [y],ssV b,v.view,.int .i64 s.a,.int .i64 0],⟨_,_,_,_,_,_,_,_,_,rfl,v1,w3,u2⟩,?_⟩
    unfold TG TQ
    rw[Sm.row_eq s,hk]
    generalize mkL 9 (Sm.rows b)=BM at *
    generalize ssV b=BV at *
    generalize mkL 11 (E.rows [y])=M at *
    generalize esV [y]=yv at *
    generalize esV s.es=kv at *
    generalize ssV s.bd=bv at *
    generalize ssV s.el=lv at *
    generalize (c.setV W1).obj=o2 at *
    generalize ((c.setV W).fail a).obj=o3 at *
    generalize c.obj=o at *
    simp[-a_load,-a_store,a_loadE,tail45,sndC,s45,eok,eT,q,hB,hL,w1,w2,w3,u1,u2,m2,v1,v3,v4,b2,l2,W_draw0,noBoxes,paste,AV.view]
   |ok x=>
    obtain⟨d,W2⟩:=x
    rw[hc]at hL
    simp only at hL ⊢
    have hss:(c.setV W1).setV W2=c.setV W2:=rfl
    rw[hss]at hL
    have u1:isSl (mkL 9 (Sm.rows d))=true:=isSl_mk
    have u2:(mkL 9 (Sm.rows d)).view=ssV d:=rfl
    have u3:isSl (ssV d)=true:=isSl_ssV
    have u4:(ssV d).view=ssV d:=view_ssV
    unfold TG TQ
    rw[Smmk_row,Sm.row_eq s,hk]
    generalize mkL 9 (Sm.rows b)=BM at *
    generalize ssV b=BV at *
    generalize mkL 9 (Sm.rows d)=DM at *
    generalize ssV d=DV at *
    generalize mkL 11 (E.rows [y])=M at *
    generalize esV [y]=yv at *
    generalize esV s.es=kv at *
    generalize ssV s.bd=bv at *
    generalize ssV s.el=lv at *
    generalize (c.setV W1).obj=o2 at *
    generalize (c.setV W2).obj=o3 at *
    generalize c.obj=o at *
    simp[-a_load,-a_store,a_loadE,tail45,sndC,s45,eok,eT,q,hB,hL,w1,w2,w3,u1,u2,u3,m2,v1,v3,v4,b2,l2,W_draw0,noBoxes,paste,AV.view]
 ·rw[if_neg q]
  simp only
  refine⟨c.V,[.int .i64 5,.str [],.str [],.int .i64 0,esV [y],.nilSl,.nilSl,.int .i64 s.a,.int .i64 0],⟨_,_,_,_,_,_,_,_,_,rfl,v1,rfl,rfl⟩,?_⟩
  unfold TG TQ
  rw[Sm.row_eq s,hk,hcs]
  generalize mkL 11 (E.rows [y])=M at *
  generalize esV [y]=yv at *
  generalize esV s.es=kv at *
  generalize ssV s.bd=bv at *
  generalize ssV s.el=lv at *
  generalize (c.fail s.a).obj=o2 at *
  generalize c.obj=o at *
  simp[-a_load,-a_store,a_loadE,tail45,sndC,s45,eok,eT,dB,q,efl,m2,v1,v3,v4,W_draw0,noBoxes,paste,AV.view]
end R9
namespace R9
open Ax Go Code9z V7 Par Chk K9
variable {pre:Store}
theorem names_loop (c:CK)(s:Sm)(lim:Nat)(g:Bool)(hn:c.V.length<1000000000){rs:List SRes}{Q:Ex->St->Prop}{kk:List Todo}(bs:List (List AV))(row:List AV)(hrow:row=s.row)
  (hok:W S 0 lim rs Q kk .normal ⟨[(0,.val (.ptr pre.length 0 0 0)),(3,.fp 0 0),(4,.fp 1 0),(5,.fp 2 0),(6,.fp 3 0),(7,.val (.bool true)),(11,.val (.bool (g&&(lookF s.nm 0 c.V).isNone)))],row::bs,pre++[c.obj]⟩) :
  W S 0 lim rs Q (.code (.loop s45_l1)::.blk 3::kk) .normal ⟨[(0,.val (.ptr pre.length 0 0 0)),(3,.fp 0 0),(4,.fp 1 0),(5,.fp 2 0),(6,.fp 3 0),(7,.val (.bool true)),(11,.val (.bool g)),(15,.val (.int .i64 0))],row::bs,pre++[c.obj]⟩:=by
 subst hrow
 rw[Sm.row_eq]at *
 have hzV:isSz 4 (fdsV c.V)=true:=isSz_fdsV
 have hsV:isSl (fdsV c.V)=true:=isSl_fdsV
 have hrV:rowsL (fdsV c.V)=c.V.map Vd.row:=rows_fdsV
 have evv:=fun wl lim bx=>c_vv (pre:=pre) (wl:=wl) (lim:=lim) (c:=c) (r:=[]) (bx:=bx)
 generalize fdsV c.V=VV at *
 generalize c.obj=o at *
 refine W_loopI s45_l1.eq_1 (fun x:Nat×Bool=>⟨[(0,.val (.ptr pre.length 0 0 0)),(3,.fp 0 0),(4,.fp 1 0),(5,.fp 2 0),(6,.fp 3 0),(7,.val (.bool true)),(11,.val (.bool x.2)),(15,.val (.int .i64 x.1))],[.int .i64 s.k,.str s.nm,.str s.on,.int .i64 s.od,esV s.es,ssV s.bd,ssV s.el,.int .i64 s.a,.int .i64 s.ref]::bs,pre++[o]⟩)
  (fun x=>x.1<=c.V.length/\(g&&(lookF s.nm 0 c.V).isNone)=(x.2&&(lookF s.nm x.1 (c.V.drop x.1)).isNone)) (fun x=>c.V.length-x.1) (0,g) rfl ⟨by simp,by simp⟩ ?_
 rintro⟨k,b⟩ ⟨hk,hp⟩ ih
 simp only at hk hp ih
 by_cases hlt:k<c.V.length
 ·have hw:IntKind.i64.wrap ((k:Int)+1)=((k+1:Nat):Int):=by rw[wrap64]<;>omega
  rw[look_drop hlt]at hp
  cases b with
  |false=>
   have ih':=ih (k+1,false) ⟨by simp only;omega,by rw[hp];rfl⟩ (by simp only;omega)
   simp[-a_load,-a_store,evv,hsV,hrV,hlt,hw,W_draw0,noBoxes]
   exact ih'
  |true=>
   by_cases e:c.V[k].nm=s.nm
   ·rw[if_pos e]at hp
    have ih':=ih (k+1,false) ⟨by simp only;omega,by rw[hp];rfl⟩ (by simp only;omega)
    simp[-a_load,-a_store,a_loadE,evv,hsV,hzV,hrV,hlt,hw,e,Vd.row,W_draw0,noBoxes]
    exact ih'
   ·rw[if_neg e]at hp
    have ih':=ih (k+1,true) ⟨by simp only;omega,hp⟩ (by simp only;omega)
    simp[-a_load,-a_store,a_loadE,evv,hsV,hzV,hrV,hlt,hw,e,Vd.row,W_draw0,noBoxes]
    exact ih'
 ·have hkl:k=c.V.length:=by omega
  have:b=(g&&(lookF s.nm 0 c.V).isNone):=by rw[hp,hkl,List.drop_length];simp[lookF]
  rw[<-this]at hok
  simp[-a_load,-a_store,evv,hsV,hrV,hlt]
  exact hok
theorem vadd (c:CK)(s:List UInt8)(t:T3)(hn:c.V.length<1000000000):appV 4 40 (mkL 4 (c.V.map Vd.row)) [[.str s,.int .i64 t.b,.int .i64 t.r,.int .i64 t.d]]=some (mkL 4 ((c.V++[(⟨s,t⟩:Vd)]).map Vd.row)):=by
 have hap:=appV_mk (sz:=4) (bytes:=40) (r:=c.V.map Vd.row) (new:=[[.str s,.int .i64 t.b,.int .i64 t.r,.int .i64 t.d]]) (by simp[fits]) (by simp[room];omega)
 have hrw:c.V.map Vd.row++[[.str s,.int .i64 t.b,.int .i64 t.r,.int .i64 t.d]]=(c.V++[(⟨s,t⟩:Vd)]).map Vd.row:=by simp[Vd.row]
 rw[hrw]at hap
 exact hap
theorem stmt_1 (c:CK)(s:Sm)(hf:c.fe=0)(hw:Way c)(hsz:c.V.length+Sm.sz s<1000000000)(hk:s.k=1)(h:formT c.sg.has s.k s.es=true):OkS pre c s:=by
 cases ht:declT c.H s.k s.on s.od with
 |none=>
  have hz:=Sm.sz_eq s
  have hel:=E.szs_len s.es
  unfold OkS
  rw[ckS_eq,if_pos h,ht]
  simp only
  exact fun lim=>⟨c.V,_,⟨_,_,_,_,_,_,_,_,_,rfl,rfl,rfl,rfl⟩,head_type c s lim hw.s (by omega) h ht⟩
 |some t=>
  refine stmt_of c s hf hw hsz h t ht fun ys hys=>?_
  have hes:esT c.H c.V s.k s.es=ckV c.H c.V s.es:=if_neg (by omega)
  rw[hes]at hys
  rw[hk]at h
  obtain rfl:ys=[]:=by
   have h0:s.es.length=0:=by simpa [formT] using h
   have:=ckV_len hys
   exact List.eq_nil_of_length_eq_zero (by omega)
  have hVn:=hw.s.V
  have eok:=fun lim=>ok_ok (pre:=pre) lim c []
  rw[decide_eq_true hf]at eok
  have efl:=fun lim=>rfail_ok (pre:=pre) lim c s.a []
  have evv:=fun wl lim bx=>c_vv (pre:=pre) (wl:=wl) (lim:=lim) (c:=c) (r:=[]) (bx:=bx)
  have et:=fun lim bx=>c_take (pre:=pre) (lim:=lim) (c:=c) (bx:=bx)
  have ep:=fun lim bx=>c_put (pre:=pre) (lim:=lim) (c:=c) (w:=(mkL 4 (c.V.map Vd.row)).took) (W:=c.V++[(⟨s.nm,t⟩:Vd)]) (bx:=bx)
  have hap:=vadd c s.nm t hVn
  obtain⟨e1,b1,l1⟩:=Smrow_cell (s:=s)
  have m0:mkL 11 (E.rows [])=.nilSl:=rfl
  have hsV:isSl (fdsV c.V)=true:=isSl_fdsV
  have hrV:(rowsL (fdsV c.V)).length=c.V.length:=by simp
  have hcs:c.setV c.V=c:=rfl
  have hp:(decide ((1:Int)=1\/(1:Int)=2))=true:=by decide
  have hp2:((1:Int)=1\/(1:Int)=2):=by decide
  have k1:keptSn 1 s.on=s.on:=rfl
  have k2:keptSd 1 s.od=s.od:=rfl
  have hwn:IntKind.i64.wrap (c.V.length:Int)=c.V.length:=by rw[wrap64]<;>omega
  have hR:ckR c.H c.sg.has c.sg.res c.V s [] t=match lookF s.nm 0 c.V with
    |some _=>.error s.a
    |none=>.ok (.mk 1 s.nm s.on s.od [] [] [] s.a c.V.length,c.V++[⟨s.nm,t⟩]):=by
   unfold ckR fitT
   simp only[hk]
   cases lookF s.nm 0 c.V<;>simp[keptS,keptSn,keptSd]
  rw[hR,hk]
  rw[k1,k2,hp,if_pos hp2,if_pos hp2,m0]
  cases hx:lookF s.nm 0 c.V with
  |some x=>
   simp only
   refine⟨c.V,[.int .i64 1,.str [],.str s.on,.int .i64 s.od,.nilSl,.nilSl,.nilSl,.int .i64 s.a,.int .i64 c.V.length],⟨_,_,_,_,_,_,_,_,_,rfl,rfl,rfl,rfl⟩,?_⟩
   unfold TG TQ
   have hloop:=fun {Q:Ex->St->Prop} {rs:List SRes} {kk:List Todo} bs lim=>names_loop (pre:=pre) c s lim true hVn (rs:=rs) (Q:=Q) (kk:=kk) bs _ rfl
   rw[hx]at hloop
   rw[Sm.row_eq s,hk,hcs]at *
   generalize esV s.es=kv at *
   generalize ssV s.bd=bv at *
   generalize ssV s.el=lv at *
   generalize (c.fail s.a).obj=o2 at *
   generalize c.obj=o at *
   simp[-a_load,-a_store,tail45,sndC,s45,eok,AV.view]
   refine hloop _ _ ?_
   simp[-a_load,-a_store,evv,hsV,efl,paste,AV.view]
  |none=>
   simp only
   unfold TG TQ
   have hloop:=fun {Q:Ex->St->Prop} {rs:List SRes} {kk:List Todo} bs lim=>names_loop (pre:=pre) c s lim true hVn (rs:=rs) (Q:=Q) (kk:=kk) bs _ rfl
   rw[hx]at hloop
   have hset:({ c with V:=c.V++[(⟨s.nm,t⟩:Vd)] }:CK)=c.setV (c.V++[⟨s.nm,t⟩]):=rfl
   rw[hset]at ep
   rw[Smmk_row,ssV_nil]
   rw[Sm.row_eq s,hk]at *
   have q1:esV []=.nilSl:=rfl
   rw[q1]
   generalize fdsV c.V=FV at *
   generalize (c.setV (c.V++[⟨s.nm,t⟩])).obj=o2 at *
   generalize mkL 4 ((c.V++[(⟨s.nm,t⟩:Vd)]).map Vd.row)=M2 at *
   generalize c.objT (mkL 4 (c.V.map Vd.row)).took=o3 at *
   generalize mkL 4 (c.V.map Vd.row)=M1 at *
   generalize esV s.es=kv at *
   generalize ssV s.bd=bv at *
   generalize ssV s.el=lv at *
   generalize c.obj=o at *
   simp[-a_load,-a_store,tail45,sndC,s45,eok,AV.view]
   refine hloop _ _ ?_
   simp[-a_load,-a_store,evv,et,ep,hap,hsV,hrV,W_draw0,noBoxes,paste,AV.view]
theorem stmt_2 (c:CK)(s:Sm)(hf:c.fe=0)(hw:Way c)(hsz:c.V.length+Sm.sz s<1000000000)(hk:s.k=2)(h:formT c.sg.has s.k s.es=true):OkS pre c s:=by
 cases ht:declT c.H s.k s.on s.od with
 |none=>
  have hz:=Sm.sz_eq s
  have hel:=E.szs_len s.es
  unfold OkS
  rw[ckS_eq,if_pos h,ht]
  simp only
  exact fun lim=>⟨c.V,_,⟨_,_,_,_,_,_,_,_,_,rfl,rfl,rfl,rfl⟩,head_type c s lim hw.s (by omega) h ht⟩
 |some t=>
  refine stmt_of c s hf hw hsz h t ht fun ys hys=>?_
  have hes:esT c.H c.V s.k s.es=ckV c.H c.V s.es:=if_neg (by omega)
  rw[hes]at hys
  rw[hk]at h
  obtain⟨y,rfl⟩:=one_len (by simpa [formT] using h) hys
  have m1:isSl (mkL 11 (E.rows [y]))=true:=isSl_mk
  have m2:(mkL 11 (E.rows [y])).view=esV [y]:=rfl
  have m3:rowsL (mkL 11 (E.rows [y]))=[y.row]:=rfl
  have m4:isSz 11 (mkL 11 (E.rows [y]))=true:=by simp[E.rows,fits,E.row_eq]
  have v1:isSl (esV [y])=true:=isSl_esV
  have v2:(esV [y]).view=esV [y]:=view_esV
  have v3:rowsL (esV [y])=[y.row]:=rfl
  have v4:isSz 11 (esV [y])=true:=isSz_E
  rw[E.row_eq y]at m3 v3
  have hVn:=hw.s.V
  have eok:=fun lim=>ok_ok (pre:=pre) lim c []
  rw[decide_eq_true hf]at eok
  have efl:=fun lim=>rfail_ok (pre:=pre) lim c s.a []
  have evv:=fun wl lim bx=>c_vv (pre:=pre) (wl:=wl) (lim:=lim) (c:=c) (r:=[]) (bx:=bx)
  have et:=fun lim bx=>c_take (pre:=pre) (lim:=lim) (c:=c) (bx:=bx)
  have ep:=fun lim bx=>c_put (pre:=pre) (lim:=lim) (c:=c) (w:=(mkL 4 (c.V.map Vd.row)).took) (W:=c.V++[(⟨s.nm,t⟩:Vd)]) (bx:=bx)
  have hap:=vadd c s.nm t hVn
  obtain⟨e1,b1,l1⟩:=Smrow_cell (s:=s)
  have hsV:isSl (fdsV c.V)=true:=isSl_fdsV
  have hrV:(rowsL (fdsV c.V)).length=c.V.length:=by simp
  have hcs:c.setV c.V=c:=rfl
  have hp:(decide ((2:Int)=1\/(2:Int)=2))=true:=by decide
  have hp2:((2:Int)=1\/(2:Int)=2):=by decide
  have k1:keptSn 2 s.on=s.on:=rfl
  have k2:keptSd 2 s.od=s.od:=rfl
  have hwn:IntKind.i64.wrap (c.V.length:Int)=c.V.length:=by rw[wrap64]<;>omega
  have hR:ckR c.H c.sg.has c.sg.res c.V s [y] t=if y.ty=t then (match lookF s.nm 0 c.V with
    |some _=>.error s.a
    |none=>.ok (.mk 2 s.nm s.on s.od [y] [] [] s.a c.V.length,c.V++[⟨s.nm,t⟩])) else .error s.a:=by
   unfold ckR fitT
   simp only[hk]
   by_cases q:y.ty=t
   ·cases lookF s.nm 0 c.V<;>simp[ty1,q,keptS,keptSn,keptSd]
   ·simp[ty1,q]
  rw[hR,hk]
  rw[k1,k2,hp,if_pos hp2,if_pos hp2]
  by_cases q:y.ty=t
  ·rw[if_pos q]
   have q:(y.ty=t)=True:=eq_true q
   cases hx:lookF s.nm 0 c.V with
   |some x=>
    simp only
    refine⟨c.V,[.int .i64 2,.str [],.str s.on,.int .i64 s.od,esV [y],.nilSl,.nilSl,.int .i64 s.a,.int .i64 c.V.length],⟨_,_,_,_,_,_,_,_,_,rfl,v1,rfl,rfl⟩,?_⟩
    unfold TG TQ
    have hloop:=fun {Q:Ex->St->Prop} {rs:List SRes} {kk:List Todo} bs lim=>names_loop (pre:=pre) c s lim true hVn (rs:=rs) (Q:=Q) (kk:=kk) bs _ rfl
    rw[hx]at hloop
    rw[Sm.row_eq s,hk,hcs]at *
    generalize mkL 11 (E.rows [y])=M at *
    generalize esV [y]=yv at *
    generalize esV s.es=kv at *
    generalize ssV s.bd=bv at *
    generalize ssV s.el=lv at *
    generalize (c.fail s.a).obj=o2 at *
    generalize c.obj=o at *
    simp[-a_load,-a_store,a_loadE,tail45,sndC,s45,eok,m2,v3,v4,dU,q,W_draw0,noBoxes,AV.view]
    refine hloop _ _ ?_
    simp[-a_load,-a_store,evv,hsV,efl,m2,v1,paste,AV.view]
   |none=>
    simp only
    unfold TG TQ
    have hloop:=fun {Q:Ex->St->Prop} {rs:List SRes} {kk:List Todo} bs lim=>names_loop (pre:=pre) c s lim true hVn (rs:=rs) (Q:=Q) (kk:=kk) bs _ rfl
    rw[hx]at hloop
    have hset:({ c with V:=c.V++[(⟨s.nm,t⟩:Vd)] }:CK)=c.setV (c.V++[⟨s.nm,t⟩]):=rfl
    rw[hset]at ep
    rw[Smmk_row,ssV_nil]
    rw[Sm.row_eq s,hk]at *
    generalize fdsV c.V=FV at *
    generalize (c.setV (c.V++[⟨s.nm,t⟩])).obj=o2 at *
    generalize mkL 4 ((c.V++[(⟨s.nm,t⟩:Vd)]).map Vd.row)=M2 at *
    generalize c.objT (mkL 4 (c.V.map Vd.row)).took=o3 at *
    generalize mkL 4 (c.V.map Vd.row)=M1 at *
    generalize mkL 11 (E.rows [y])=M at *
    generalize esV [y]=yv at *
    generalize esV s.es=kv at *
    generalize ssV s.bd=bv at *
    generalize ssV s.el=lv at *
    generalize c.obj=o at *
    simp[-a_load,-a_store,a_loadE,tail45,sndC,s45,eok,m2,v3,v4,dU,q,W_draw0,noBoxes,AV.view]
    refine hloop _ _ ?_
    simp[-a_load,-a_store,evv,et,ep,hap,hsV,hrV,m2,v1,W_draw0,noBoxes,paste,AV.view]
  ·rw[if_neg q]
   simp only
   refine⟨c.V,[.int .i64 2,.str [],.str s.on,.int .i64 s.od,esV [y],.nilSl,.nilSl,.int .i64 s.a,.int .i64 c.V.length],⟨_,_,_,_,_,_,_,_,_,rfl,v1,rfl,rfl⟩,?_⟩
   unfold TG TQ
   have hloop:=fun {Q:Ex->St->Prop} {rs:List SRes} {kk:List Todo} bs lim=>names_loop (pre:=pre) c s lim false hVn (rs:=rs) (Q:=Q) (kk:=kk) bs _ rfl
   rw[Bool.false_and]at hloop
   rw[Sm.row_eq s,hk,hcs]at *
   generalize mkL 11 (E.rows [y])=M at *
   generalize esV [y]=yv at *
   generalize esV s.es=kv at *
   generalize ssV s.bd=bv at *
   generalize ssV s.el=lv at *
   generalize (c.fail s.a).obj=o2 at *
   generalize c.obj=o at *
   simp[-a_load,-a_store,a_loadE,tail45,sndC,s45,eok,m2,v3,v4,dU,q,W_draw0,noBoxes,AV.view]
   refine hloop _ _ ?_
   simp[-a_load,-a_store,evv,hsV,efl,m2,v1,paste,AV.view]
end R9
namespace R9
open Ax Go Code9z V7 Par Chk K9
variable {pre:Store}
theorem block_ok (c:CK)(l:List Sm)(hf:c.fe=0)(hw:Way c)(hsz:c.V.length+Sm.szs l<1000000000)
  (hl:∀s∈l,∀d:CK,d.H=c.H->d.sg=c.sg->d.fe=0->Way d->d.V.length+Sm.sz s<1000000000->OkS pre d s):OkB pre c l:=by
 unfold OkB
 have hz:isSz 9 (ssV l)=true:=isSz_Sm
 have hsl:isSl (ssV l)=true:=isSl_ssV
 have hvw:(ssV l).view=ssV l:=view_ssV
 have hrE:rowsL (ssV l)=Sm.rows l:=rowsL_lstV
 have hlen:=Sm.szs_len l
 have hap:∀(ys:List Sm) (y:Sm),ys.length<1000000000->appV 9 136 (mkL 9 (Sm.rows ys)) [y.row]=some (mkL 9 (Sm.rows (ys++[y]))):=fun ys y h=>by
  rw[appV_mk (by simp[fits,Sm.row_eq]) (by simp[room];omega)]
  simp[Smrows_map]
 have hap2:∀(ys:List (List AV)) (y:List AV),y.length=9->ys.length<1000000000->appV 9 136 (mkL 9 ys) [y]=some (mkL 9 (ys++[y])):=fun ys y h1 h=>by
  rw[appV_mk (by simp[fits,h1]) (by simp[room];omega)]
 cases hR:ckB c.H c.sg.has c.sg.res c.V l with
 |ok x=>
  obtain⟨zs,X⟩:=x
  intro lim
  refine call_run (sf:=s28) rfl rfl rfl ?_
  generalize ssV l=lv at *
  simp[-a_load,-a_store,s28]
  refine W_loopI s28_l0.eq_1 (fun x:Nat×List Sm×List Vd×List AV=>⟨[(0,.val (.ptr pre.length 0 0 0)),(1,.val lv),(5,.val (mkL 9 (Sm.rows x.2.1))),(6,.val (.int .i64 x.1))],[],pre++[(c.setV x.2.2.1).obj]⟩)
   (fun x=>x.1<=l.length/\x.2.1.length=x.1/\preB x.2.1 (ckB c.H c.sg.has c.sg.res x.2.2.1 (l.drop x.1))=.ok (zs,X)/\Way (c.setV x.2.2.1)/\x.2.2.1.length+Sm.szs (l.drop x.1)<1000000000) (fun x=>l.length-x.1) (0,[],c.V,[]) rfl ⟨by simp,rfl,by simp[preB,hR],hw,by simpa using hsz⟩ ?_
  rintro⟨k,ys,V,b⟩ ⟨hk,hy,hp,hW,hVs⟩ ih
  simp only at hk hy hp hW hVs ih
  by_cases hlt:k<l.length
  ·have hwr:IntKind.i64.wrap ((k:Int)+1)=((k+1:Nat):Int):=by rw[wrap64]<;>omega
   rw[szs_drop l k hlt]at hVs
   have hv:=hl l[k] (List.getElem_mem hlt) (c.setV V) rfl rfl hf hW (by show V.length+_<_;omega)
   unfold OkS at hv
   have hcd:ckS (c.setV V).H (c.setV V).sg.has (c.setV V).sg.res (c.setV V).V l[k]=ckS c.H c.sg.has c.sg.res V l[k]:=rfl
   rw[hcd]at hv
   rw[preB_drop hlt]at hp
   have gE:=Sm_get hlt
   have gE':=fun h2=>Sm_get' hlt h2
   have eok:=fun lim=>ok_ok (pre:=pre) lim (c.setV V) []
   rw[decide_eq_true (show (c.setV V).fe=0 from hf)]at eok
   cases hx:ckS c.H c.sg.has c.sg.res V l[k] with
   |error a=>rw[hx]at hp;cases hp
   |ok x=>
    obtain⟨y,W⟩:=x
    rw[hx]at hp hv
    simp only at hp hv
    obtain⟨w1,w2⟩:=ckS_wt l[k] V y W hW.V hx
    have ap:=hap ys y (by omega)
    have ih':=fun b=>ih (k+1,ys++[y],W,b) ⟨by simp only;omega,by simp[hy],hp,way_set (W:=W) hw w1 (by omega),by show W.length+Sm.szs (l.drop (k+1))<1000000000;omega⟩ (by simp only;omega)
    simp only at ih'
    have hss:(c.setV V).setV W=c.setV W:=rfl
    rw[hss]at hv
    generalize (c.setV V).obj=o1 at *
    generalize (c.setV W).obj=o2 at *
    generalize mkL 9 (Sm.rows (ys++[y]))=R at *
    rw[Sm.row_eq l[k]]at hv gE
    simp only[Sm.row_eq l[k]]at gE'
    rw[Sm.row_eq y]at hv ap
    generalize l[k]=x at *
    simp[-a_load,-a_store,a_loadE,hlt,hwr,hsl,hvw,hz,hrE,gE',eok,hv,ap,AV.view]
    exact ih' []
  ·have hkl:k=l.length:=by omega
   have hh:ys=zs/\V=X:=by
    rw[hkl,List.drop_length]at hp
    simpa [ckB,preB] using hp
   obtain⟨h1,h2⟩:=hh
   subst h1 h2
   simp[-a_load,-a_store,hsl,hvw,hrE,hlt]
 |error a=>
  intro lim
  obtain⟨v,st',h1,W,h2,h3⟩:∃v st',(orcL S).call 0 lim 28 [.ptr pre.length 0 0 0,ssV l] (pre++[c.obj])=some (v,st')/\∃W,isSl v=true/\st'=pre++[((c.setV W).fail a).obj]:=by
   refine call_ex (sf:=s28) rfl rfl rfl ?_
   generalize ssV l=lv at *
   simp[-a_load,-a_store,s28]
   refine W_loopI s28_l0.eq_1 (fun x:Nat×List (List AV)×List Vd×CK×List AV=>⟨[(0,.val (.ptr pre.length 0 0 0)),(1,.val lv),(5,.val (mkL 9 x.2.1)),(6,.val (.int .i64 x.1))],[],pre++[x.2.2.2.1.obj]⟩)
    (fun x=>x.1<=l.length/\x.2.1.length=x.1/\(x.2.2.2.1=c.setV x.2.2.1/\ckB c.H c.sg.has c.sg.res x.2.2.1 (l.drop x.1)=.error a/\Way (c.setV x.2.2.1)/\x.2.2.1.length+Sm.szs (l.drop x.1)<1000000000\/x.2.2.2.1=(c.setV x.2.2.1).fail a))
    (fun x=>l.length-x.1) (0,[],c.V,c,[]) rfl ⟨by simp,rfl,.inl ⟨rfl,by simpa using hR,hw,by simpa using hsz⟩⟩ ?_
   rintro⟨k,ys,V,d,b⟩ ⟨hk,hy,hp⟩ ih
   simp only at hk hy hp ih
   by_cases hlt:k<l.length
   ·have hwr:IntKind.i64.wrap ((k:Int)+1)=((k+1:Nat):Int):=by rw[wrap64]<;>omega
    have gE:=Sm_get hlt
    have gE':=fun h2=>Sm_get' hlt h2
    rcases hp with⟨hd,hp,hW,hVs⟩|hd
    ·subst hd
     rw[szs_drop l k hlt]at hVs
     have hv:=hl l[k] (List.getElem_mem hlt) (c.setV V) rfl rfl hf hW (by show V.length+_<_;omega)
     unfold OkS at hv
     have hcd:ckS (c.setV V).H (c.setV V).sg.has (c.setV V).sg.res (c.setV V).V l[k]=ckS c.H c.sg.has c.sg.res V l[k]:=rfl
     rw[hcd]at hv
     rw[ckB_drop hlt]at hp
     have eok:=fun lim=>ok_ok (pre:=pre) lim (c.setV V) []
     rw[decide_eq_true (show (c.setV V).fe=0 from hf)]at eok
     cases hx:ckS c.H c.sg.has c.sg.res V l[k] with
     |error a'=>
      rw[hx]at hp hv
      simp only at hp hv
      cases hp
      obtain⟨W,row,⟨rk,rnm,ron,rod,res,rbd,rel,ra,rref,rfl,q1,q2,q3⟩,hv⟩:=hv (pre.length+1)
      have hss:(c.setV V).setV W=c.setV W:=rfl
      rw[hss]at hv
      have ap:=hap2 ys [.int .i64 rk,.str rnm,.str ron,.int .i64 rod,res.view,rbd.view,rel.view,.int .i64 ra,.int .i64 rref] rfl (by omega)
      have ih':=fun b=>ih (k+1,ys++[[.int .i64 rk,.str rnm,.str ron,.int .i64 rod,res.view,rbd.view,rel.view,.int .i64 ra,.int .i64 rref]],W,(c.setV W).fail a,b) ⟨by simp only;omega,by simp[hy],.inr rfl⟩ (by simp only;omega)
      simp only at ih'
      generalize (c.setV V).obj=o1 at *
      generalize ((c.setV W).fail a).obj=o2 at *
      generalize mkL 9 (ys++[[.int .i64 rk,.str rnm,.str ron,.int .i64 rod,res.view,rbd.view,rel.view,.int .i64 ra,.int .i64 rref]])=R at *
      rw[Sm.row_eq l[k]]at hv gE
      simp only[Sm.row_eq l[k]]at gE'
      generalize l[k]=x at *
      simp[-a_load,-a_store,a_loadE,hlt,hwr,hsl,hvw,hz,hrE,gE',eok,hv,ap,q1,q2,q3,AV.view]
      exact ih' []
     |ok x=>
      obtain⟨y,W⟩:=x
      rw[hx]at hp hv
      simp only at hp hv
      obtain⟨w1,w2⟩:=ckS_wt l[k] V y W hW.V hx
      have hp':ckB c.H c.sg.has c.sg.res W (l.drop (k+1))=.error a:=by
       split at hp
       ·rename_i h;cases hp;exact h
       ·cases hp
      have ap:=hap2 ys y.row (by rw[Sm.row_eq];rfl) (by omega)
      have ih':=fun b=>ih (k+1,ys++[y.row],W,c.setV W,b) ⟨by simp only;omega,by simp[hy],.inl ⟨rfl,hp',way_set (W:=W) hw w1 (by omega),by show W.length+Sm.szs (l.drop (k+1))<1000000000;omega⟩⟩ (by simp only;omega)
      simp only at ih'
      have hss:(c.setV V).setV W=c.setV W:=rfl
      rw[hss]at hv
      generalize (c.setV V).obj=o1 at *
      generalize (c.setV W).obj=o2 at *
      generalize mkL 9 (ys++[y.row])=R at *
      rw[Sm.row_eq l[k]]at hv gE
      simp only[Sm.row_eq l[k]]at gE'
      rw[Sm.row_eq y]at hv ap
      generalize l[k]=x at *
      simp[-a_load,-a_store,a_loadE,hlt,hwr,hsl,hvw,hz,hrE,gE',eok,hv,ap,AV.view]
      exact ih' []
    ·subst hd
     have eok2:=fun lim=>ok_ok (pre:=pre) lim ((c.setV V).fail a) []
     rw[decide_eq_false fail_fe]at eok2
     simp only[Sm.row_eq l[k]]at gE'
     rw[Sm.row_eq l[k]]at gE
     have hex:∃W,((c.setV V).fail a).obj=((c.setV W).fail a).obj:=⟨V,rfl⟩
     generalize ((c.setV V).fail a).obj=o2 at *
     generalize l[k]=x at *
     simp[-a_load,-a_store,hlt,hsl,hvw,hrE,eok2,hex,AV.view]
   ·have hkl:k=l.length:=by omega
    rcases hp with⟨hd,hp,_⟩|hd
    ·rw[hkl,List.drop_length]at hp
     simp[ckB]at hp
    ·subst hd
     have hex:∃W,((c.setV V).fail a).obj=((c.setV W).fail a).obj:=⟨V,rfl⟩
     generalize ((c.setV V).fail a).obj=o2 at *
     simp[-a_load,-a_store,hsl,hvw,hrE,hlt,hex]
  rw[h3]at h1
  exact⟨W,v,h2,h1⟩
theorem stmt_ok (s:Sm):∀c:CK,c.fe=0->Way c->c.V.length+Sm.sz s<1000000000->OkS pre c s:=by
 induction s using Sm.ind with
 |_ s ih1 ih2=>
  intro c hf hw hsz
  have hz:=Sm.sz_eq s
  have hel:=E.szs_len s.es
  cases h:formT c.sg.has s.k s.es with
  |false=>
   unfold OkS
   rw[ckS_eq,h]
   exact fun lim=>⟨c.V,_,⟨_,_,_,_,_,_,_,_,_,rfl,rfl,rfl,rfl⟩,head_form c s lim (by omega) h⟩
  |true=>
   have hbd:∀d:CK,d.H=c.H->d.sg=c.sg->d.fe=0->Way d->d.V.length+Sm.szs s.bd<1000000000->OkB pre d s.bd:=fun d _ _ h1 h2 h3=>
    block_ok d s.bd h1 h2 h3 fun x hx e _ _ g1 g2 g3=>ih1 x hx e g1 g2 g3
   have hbe:∀d:CK,d.H=c.H->d.sg=c.sg->d.fe=0->Way d->d.V.length+Sm.szs s.el<1000000000->OkB pre d s.el:=fun d _ _ h1 h2 h3=>
    block_ok d s.el h1 h2 h3 fun x hx e _ _ g1 g2 g3=>ih2 x hx e g1 g2 g3
   rcases form_in h with k|k|k|k|k|k|k|k|k
   ·exact stmt_1 c s hf hw hsz k h
   ·exact stmt_2 c s hf hw hsz k h
   ·exact stmt_3 c s hf hw hsz k h
   ·exact stmt_4 c s hf hw hsz k h
   ·exact stmt_5 c s hf hw hsz k h hbd hbe
   ·exact stmt_6 c s hf hw hsz k h hbd
   ·exact stmt_7 c s hf hw hsz k h
   ·exact stmt_8 c s hf hw hsz k h
   ·exact stmt_9 c s hf hw hsz k h
theorem blk_ok (c:CK)(l:List Sm)(hf:c.fe=0)(hw:Way c)(hsz:c.V.length+Sm.szs l<1000000000):OkB pre c l:=
 block_ok c l hf hw hsz fun s _ d _ _ h1 h2 h3=>stmt_ok s d h1 h2 h3
end R9
namespace R9
open Ax Go Code9z V7 Par Chk K9
variable {pre:Store}
theorem c_flt2 {wl lim:Nat}{c:CK}{bx:Boxes}:act0 wl lim (.load true 2 false) [.val (.ptr pre.length 0 0 12)] (pre++[c.obj]) bx=some (.val (.agg [.int .i64 c.fe,.int .i64 c.fa]),pre++[c.obj],bx):=by
 simp[CK.obj,cut,AV.view]
theorem c_putV {lim:Nat}{c:CK}{W:List Vd}{bx:Boxes}:act0 0 lim (.store 1) [.val (.ptr pre.length 0 0 11),.val (mkL 4 (W.map Vd.row))] (pre++[c.obj]) bx=some (.none,pre++[(c.setV W).obj],bx):=by
 simp[CK.obj,CK.setV,mayWrite,AV.allPure,paste]
def ckW (p:Pg)(g:Sg):CK:=⟨hdOf p,mainP p,g,[],0,0⟩
theorem c_box {wl lim:Nat}{p:Pg}{g:Sg}{st:Store}{bx:Boxes}:act0 wl lim (.box 14) [.val (.agg [lstV 2 ((hdOf p).shapes.map shRow),fdsV (hdOf p).globals,lstV 6 ((hdOf p).sigs.map Sg.row),.int .i64 (mainP p),mkL 1 (sts (hdOf p).rs),.str g.nm,fdsV g.ps,.bool g.has,.int .i64 g.res.b,.int .i64 g.res.r,.int .i64 g.res.d,.nilSl,.int .i64 0,.int .i64 0])] st bx =
  some (.val (.ptr st.length 0 0 0),st++[(ckW p g).obj],bx):=by
 have h:(ckW p g).obj=.rows 0 14 [[lstV 2 ((hdOf p).shapes.map shRow),fdsV (hdOf p).globals,lstV 6 ((hdOf p).sigs.map Sg.row),.int .i64 (mainP p),mkL 1 (sts (hdOf p).rs),.str g.nm,fdsV g.ps,.bool g.has,.int .i64 g.res.b,.int .i64 g.res.r,.int .i64 g.res.d,.nilSl,.int .i64 0,.int .i64 0]]:=by
  simp[CK.obj,ckW,mkL_nil]
 rw[h]
 simp
open N7 U7 in
theorem check_ok (wl lim:Nat)(p:Pg)(st:Store)(hg:(gdOf p).ok)(hsm:GD.sm (gdOf p))(hsz:∀f∈p.funcs,f.params.length+Sm.szs f.body<1000000000) :
  (orcL S).call wl lim 12 [.agg p.row] st=some (typedV p,st):=by
 have em:∀wl lim st,(orcL S).call wl lim 26 [.agg p.row] st=some (resH (gdOf p),st):=fun wl lim st=>rmake_ok wl lim (gdOf p) st hg hsm
 have hrn:p.recs.length<1000000000:=by have:=hsm.recs;rw[dCRs_gd,List.length_map]at this;exact this
 have hfn:p.funcs.length<1000000000:=by have:=hsm.funcs;rw[dFNs_gd,List.length_map]at this;exact this
 have enm:∀wl lim st,(orcL S).call wl lim 27 [.agg p.row] st=some (mkL 1 (K9.sts (hdOf p).rs),st):=fun wl lim st=>by
  have:=names_ok wl lim (gdOf p) st hg hsm.recs
  rw[recN_gd]at this
  exact this
 refine call_pure (sf:=s12) rfl rfl (by simp[Pg.row,AV.allPure,AV.isPure]) rfl (pure_typedV p) ?_
 unfold typedV
 unfold resH at em
 cases hF:faultH (gdOf p) with
 |some a=>
  rw[hF]at em
  simp only[zeroH,fE,fX,Pg.row]at em ⊢
  simp[-a_load,-a_store,s12,em,paste,AV.view,W_draw0,noBoxes]
 |none=>
  rw[hF,heads_eq]at em
  simp only[fE,fX,Pg.row,hdCells]at em enm ⊢
  have t1:isSl (lstV 2 ((hdOf p).shapes.map shRow))=true:=isSl_lstV
  have t2:(lstV 2 ((hdOf p).shapes.map shRow)).view=lstV 2 ((hdOf p).shapes.map shRow):=view_lstV
  have t3:isSl (lstV 6 ((hdOf p).sigs.map Sg.row))=true:=isSl_lstV
  have t4:(lstV 6 ((hdOf p).sigs.map Sg.row)).view=lstV 6 ((hdOf p).sigs.map Sg.row):=view_lstV
  have t5:isSz 6 (lstV 6 ((hdOf p).sigs.map Sg.row))=true:=isSz_lst (by simp[fits,Sg.row])
  have t6:rowsL (lstV 6 ((hdOf p).sigs.map Sg.row))=(hdOf p).sigs.map Sg.row:=rowsL_lstV
  have r1:isSl (lstV 3 (p.recs.map Rc.row))=true:=isSl_lstV
  have r2:(lstV 3 (p.recs.map Rc.row)).view=lstV 3 (p.recs.map Rc.row):=view_lstV
  have f1:isSl (lstV 7 (p.funcs.map Fc.row))=true:=isSl_lstV
  have f2:(lstV 7 (p.funcs.map Fc.row)).view=lstV 7 (p.funcs.map Fc.row):=view_lstV
  have f3:isSz 7 (lstV 7 (p.funcs.map Fc.row))=true:=isSz_lst (by simp[fits,Fc.row])
  have f4:rowsL (lstV 7 (p.funcs.map Fc.row))=p.funcs.map Fc.row:=rowsL_lstV
  have g1:isSl (lstV 4 (p.globals.map PD.cells))=true:=isSl_lstV
  have g2:(lstV 4 (p.globals.map PD.cells)).view=lstV 4 (p.globals.map PD.cells):=view_lstV
  have gl1:isSl (fdsV (hdOf p).globals)=true:=isSl_fdsV
  have gl2:(fdsV (hdOf p).globals).view=fdsV (hdOf p).globals:=view_fdsV
  have nm1:isSl (mkL 1 (K9.sts (hdOf p).rs))=true:=isSl_mk
  have ebox:=fun wl lim g st bx=>c_box (wl:=wl) (lim:=lim) (p:=p) (g:=g) (st:=st) (bx:=bx)
  have hsl:(hdOf p).sigs.length=p.funcs.length:=by simp[hdOf]
  have hway:∀g:Sg,g∈(hdOf p).sigs->Way ((ckW p g).setV g.ps):=fun g hg'=>by
   have hok:=hd_ok p
   have hnl:(namesOf p).length=p.recs.length:=by simp[namesOf]
   have hgl:(hdOf p).globals.length<1000000000:=by have:=hsm.globals;rw[dPs_gd]at this;simpa [hdOf,fdsOf] using this
   have hF:∀s∈(hdOf p).shapes,s.2.length<1000000000:=fun s hs=>by
    obtain⟨r,hr,rfl⟩:=List.mem_map.1 hs
    have:=hsm.fields (crOf r) (by rw[dCRs_gd];exact List.mem_map_of_mem hr)
    simpa [crOf,dPs_lst,fdsOf] using this
   have hP:∀s∈(hdOf p).sigs,s.ps.length<1000000000:=fun s hs=>by
    obtain⟨r,hr,rfl⟩:=List.mem_map.1 hs
    have:=hsm.params (fnOf r) (by rw[dFNs_gd];exact List.mem_map_of_mem hr)
    simpa [fnOf,dPs_lst,sgOf,fdsOf] using this
   refine⟨⟨hP g hg',hgl,?_,?_,hF,hP⟩,hok,(hok.sigs g hg').2⟩
   ·show (hdOf p).sigs.length<_;rw[hsl];exact hfn
   ·show (namesOf p).length<_;rw[hnl];exact hrn
  generalize hHS:lstV 2 ((hdOf p).shapes.map shRow)=HS at *
  generalize hHG:lstV 6 ((hdOf p).sigs.map Sg.row)=HG at *
  generalize hGL:fdsV (hdOf p).globals=GL at *
  generalize lstV 3 (p.recs.map Rc.row)=PR at *
  generalize lstV 7 (p.funcs.map Fc.row)=PF at *
  generalize lstV 4 (p.globals.map PD.cells)=PG at *
  generalize mkL 1 (K9.sts (hdOf p).rs)=NM at *
  simp[-a_load,-a_store,s12,em,t1,t2,t3,t4,r1,r2,f1,f2,g1,g2,gl1,gl2,paste,AV.view]
  refine W_loopI s12_l0.eq_1 (fun x:Nat×List Bd×Store=>⟨[(1,.fp 0 0),(2,.fp 1 0),(3,.fp 2 0),(4,.fp 3 0),(6,.fp 5 0),(7,.val (.int .i64 x.1))],
    [[PR,PG,PF],[.nilSl,.nilSl,.nilSl,.int .i64 0,.nilSl],[.int .i64 0,.int .i64 0],[HS,GL,HG,.int .i64 (mainP p)],[.int .i64 0,.int .i64 0],[HS,GL,HG,.int .i64 (mainP p),mkL 3 (x.2.1.map Bd.row)]],x.2.2⟩)
    (fun x=>x.1<=p.funcs.length/\x.2.1.length=x.1/\preF x.2.1 (ckF (hdOf p) ((hdOf p).sigs.drop x.1) (p.funcs.drop x.1))=ckF (hdOf p) (hdOf p).sigs p.funcs)
    (fun x=>p.funcs.length-x.1) (0,[],[]) (by simp[mkL_nil]) ⟨by simp,rfl,by simp[preF];split<;>rename_i h<;>exact h.symm⟩ ?_
  rintro⟨k,bs,obs⟩ ⟨hk,hbs,hp⟩ ih
  simp only at hk hbs hp ih
  by_cases hlt2:k<p.funcs.length
  ·have hks:k<(hdOf p).sigs.length:=by omega
   have hwr:IntKind.i64.wrap ((k:Int)+1)=((k+1:Nat):Int):=by rw[wrap64]<;>omega
   have gF':∀h:k<(p.funcs.map Fc.row).length,(p.funcs.map Fc.row)[k]=[.str p.funcs[k].name,lstV 4 (p.funcs[k].params.map PD.cells),.bool p.funcs[k].has,.str p.funcs[k].on,.int .i64 p.funcs[k].od,ssV p.funcs[k].body,.int .i64 p.funcs[k].a]:=fun h=>by simp[Fc.row]
   have gS':∀h:k<((hdOf p).sigs.map Sg.row).length,((hdOf p).sigs.map Sg.row)[k]=[.str (hdOf p).sigs[k].nm,fdsV (hdOf p).sigs[k].ps,.bool (hdOf p).sigs[k].has,.int .i64 (hdOf p).sigs[k].res.b,.int .i64 (hdOf p).sigs[k].res.r,.int .i64 (hdOf p).sigs[k].res.d]:=fun h=>by simp[Sg.row]
   rw[ckF_drop hks hlt2]at hp
   have hps:(hdOf p).sigs[k].ps.length=p.funcs[k].params.length:=by simp[hdOf,sgOf,fdsOf]
   have hgm:=List.getElem_mem hks
   have hB:=blk_ok (pre:=obs) ((ckW p (hdOf p).sigs[k]).setV (hdOf p).sigs[k].ps) p.funcs[k].body rfl (hway _ hgm) (by
    have:=hsz _ (List.getElem_mem hlt2)
    show (hdOf p).sigs[k].ps.length+_<_
    rw[hps];exact this)
   unfold OkB at hB
   have hcd:ckB ((ckW p (hdOf p).sigs[k]).setV (hdOf p).sigs[k].ps).H ((ckW p (hdOf p).sigs[k]).setV (hdOf p).sigs[k].ps).sg.has ((ckW p (hdOf p).sigs[k]).setV (hdOf p).sigs[k].ps).sg.res ((ckW p (hdOf p).sigs[k]).setV (hdOf p).sigs[k].ps).V p.funcs[k].body=ckB (hdOf p) (hdOf p).sigs[k].has (hdOf p).sigs[k].res (hdOf p).sigs[k].ps p.funcs[k].body:=rfl
   rw[hcd]at hB
   have hap:∀cs:List AV,cs.length=3->appV 3 56 (mkL 3 (bs.map Bd.row)) [cs]=some (mkL 3 (bs.map Bd.row++[cs])):=fun cs hc=>appV_mk (by simp[fits,hc]) (by simp[room];omega)
   have hpl:(hdOf p).sigs[k].ps.length<1000000000:=(hway _ hgm).s.V
   have hvs:appV 4 40 .nilSl ((hdOf p).sigs[k].ps.map Vd.row)=some (mkL 4 ((hdOf p).sigs[k].ps.map Vd.row)):=by
    have:=appV_mk (sz:=4) (bytes:=40) (r:=[]) (new:=(hdOf p).sigs[k].ps.map Vd.row) (by simp[fits,Vd.row]) (by simp[room];omega)
    exact this
   have ep:=fun lim bx=>c_putV (pre:=obs) (lim:=lim) (c:=ckW p (hdOf p).sigs[k]) (W:=(hdOf p).sigs[k].ps) (bx:=bx)
   have ebox:=fun wl lim bx=>ebox wl lim (hdOf p).sigs[k] obs bx
   have bd1:isSl (ssV p.funcs[k].body)=true:=isSl_ssV
   have bd2:(ssV p.funcs[k].body).view=ssV p.funcs[k].body:=view_ssV
   have ps1:isSl (lstV 4 (p.funcs[k].params.map PD.cells))=true:=isSl_lstV
   have ps2:(lstV 4 (p.funcs[k].params.map PD.cells)).view=lstV 4 (p.funcs[k].params.map PD.cells):=view_lstV
   have sp1:isSl (fdsV (hdOf p).sigs[k].ps)=true:=isSl_fdsV
   have sp2:(fdsV (hdOf p).sigs[k].ps).view=fdsV (hdOf p).sigs[k].ps:=view_fdsV
   have sp3:rowsL (fdsV (hdOf p).sigs[k].ps)=(hdOf p).sigs[k].ps.map Vd.row:=rows_fdsV
   have hss:∀W,((ckW p (hdOf p).sigs[k]).setV (hdOf p).sigs[k].ps).setV W=(ckW p (hdOf p).sigs[k]).setV W:=fun _=>rfl
   have m1:isSl (mkL 4 ((hdOf p).sigs[k].ps.map Vd.row))=true:=isSl_mk
   generalize hrS:(hdOf p).sigs.map Sg.row=RS at *
   generalize hrF:p.funcs.map Fc.row=RF at *
   have hkRS:k<RS.length:=by rw[<-hrS,List.length_map];exact hks
   have hkRF:k<RF.length:=by rw[<-hrF,List.length_map];exact hlt2
   have gS'':=gS' hkRS
   have gF'':=gF' hkRF
   clear gS' gF'
   cases hR:ckB (hdOf p) (hdOf p).sigs[k].has (hdOf p).sigs[k].res (hdOf p).sigs[k].ps p.funcs[k].body with
   |error a=>
    rw[hR]at hp hB
    simp only at hp hB
    obtain⟨W,v,w1,hB2⟩:=hB 0
    rw[hss]at hB2
    clear hB
    have eok2:=fun lim=>ok_ok (pre:=obs) lim (((ckW p (hdOf p).sigs[k]).setV W).fail a) []
    rw[decide_eq_false fail_fe]at eok2
    have hcf:=fun wl lim bx=>c_flt2 (pre:=obs) (wl:=wl) (lim:=lim) (c:=((ckW p (hdOf p).sigs[k]).setV W).fail a) (bx:=bx)
    have hfe:(((ckW p (hdOf p).sigs[k]).setV W).fail a).fe=3/\(((ckW p (hdOf p).sigs[k]).setV W).fail a).fa=a:=⟨rfl,rfl⟩
    rw[hfe.1,hfe.2]at hcf
    rw[<-hp]
    simp only[bodV]
    have w2:isSl v.view=true:=by rw[isSl_view];exact w1
    have w3:v.view.view=v.view:=view_view v
    generalize (((ckW p (hdOf p).sigs[k]).setV W).fail a).obj=o3 at *
    generalize ((ckW p (hdOf p).sigs[k]).setV (hdOf p).sigs[k].ps).obj=o2 at *
    generalize (ckW p (hdOf p).sigs[k]).obj=o1 at *
    generalize mkL 4 ((hdOf p).sigs[k].ps.map Vd.row)=M4 at *
    generalize ssV p.funcs[k].body=PB at *
    generalize lstV 4 (p.funcs[k].params.map PD.cells)=PP at *
    generalize fdsV (hdOf p).sigs[k].ps=SP at *
    generalize p.funcs[k]=fk at *
    generalize (hdOf p).sigs[k]=gk at *
    simp[-a_load,-a_store,a_loadE,enm,ebox,ep,hvs,hB2,eok2,hcf,f1,f2,f3,f4,t2,t4,t5,t6,gl2,r2,g2,nm1,gF'',gS'',hkRS,hkRF,bd2,sp1,sp2,sp3,W_draw0,noBoxes,paste,AV.view]
   |ok x=>
    obtain⟨cc,W⟩:=x
    rw[hR]at hp hB
    simp only at hp hB
    have hB2:=fun lim=>hB lim
    clear hB
    simp only[hss]at hB2
    have eok:=fun lim=>ok_ok (pre:=obs) lim ((ckW p (hdOf p).sigs[k]).setV W) []
    rw[decide_eq_true (show ((ckW p (hdOf p).sigs[k]).setV W).fe=0 from rfl)]at eok
    have evv:=fun wl lim bx=>c_vv (pre:=obs) (wl:=wl) (lim:=lim) (c:=(ckW p (hdOf p).sigs[k]).setV W) (r:=[]) (bx:=bx)
    have hvW:((ckW p (hdOf p).sigs[k]).setV W).V=W:=rfl
    rw[hvW]at evv
    have ih':=ih (k+1,bs++[⟨W,cc,p.funcs[k].a⟩],obs++[((ckW p (hdOf p).sigs[k]).setV W).obj]) ⟨by simp only;omega,by simp[hbs],hp⟩ (by simp only;omega)
    simp only[List.map_append,List.map_cons,List.map_nil,Bd.row]at ih'
    have w1:isSl (fdsV W)=true:=isSl_fdsV
    have w2:(fdsV W).view=fdsV W:=view_fdsV
    have ap:=hap [fdsV W,ssV cc,.int .i64 p.funcs[k].a] rfl
    have c1:isSl (mkL 9 (Sm.rows cc))=true:=isSl_mk
    have c2:(mkL 9 (Sm.rows cc)).view=ssV cc:=rfl
    have c5:isSl (ssV cc)=true:=isSl_ssV
    have c6:(ssV cc).view=ssV cc:=view_ssV
    have n1:isSl (mkL 3 (bs.map Bd.row++[[fdsV W,ssV cc,.int .i64 p.funcs[k].a]]))=true:=isSl_mk
    generalize fdsV W=FW at *
    generalize mkL 9 (Sm.rows cc)=MC at *
    generalize ssV cc=SC at *
    generalize ((ckW p (hdOf p).sigs[k]).setV W).obj=o3 at *
    generalize ((ckW p (hdOf p).sigs[k]).setV (hdOf p).sigs[k].ps).obj=o2 at *
    generalize (ckW p (hdOf p).sigs[k]).obj=o1 at *
    generalize mkL 4 ((hdOf p).sigs[k].ps.map Vd.row)=M4 at *
    generalize ssV p.funcs[k].body=PB at *
    generalize lstV 4 (p.funcs[k].params.map PD.cells)=PP at *
    generalize fdsV (hdOf p).sigs[k].ps=SP at *
    generalize mkL 3 (bs.map Bd.row++[[FW,SC,.int .i64 p.funcs[k].a]])=BN at *
    generalize mkL 3 (bs.map Bd.row)=BL at *
    generalize p.funcs[k]=fk at *
    generalize (hdOf p).sigs[k]=gk at *
    simp[-a_load,-a_store,a_loadE,hwr,enm,ebox,ep,hvs,hB2,eok,evv,ap,f1,f2,f3,f4,t2,t4,t5,t6,gl2,r2,g2,nm1,gF'',gS'',hkRS,hkRF,bd2,sp1,sp2,sp3,w1,w2,c1,c2,c5,n1,W_draw0,noBoxes,paste,AV.view]
    exact ih'
  ·have hkl:k=p.funcs.length:=by omega
   have hR:ckF (hdOf p) (hdOf p).sigs p.funcs=.ok bs:=by
    rw[<-hp,hkl,List.drop_length,<-hsl,List.drop_length]
    simp[ckF,preF]
   rw[hR]
   have n1:isSl (mkL 3 (bs.map Bd.row))=true:=isSl_mk
   have n2:(mkL 3 (bs.map Bd.row)).view=lstV 3 (bs.map Bd.row):=rfl
   have n4:isSl (lstV 3 (bs.map Bd.row))=true:=isSl_lstV
   simp only[bodV,hdCells]
   rw[hHS,hHG,hGL]
   generalize mkL 3 (bs.map Bd.row)=BL at *
   generalize lstV 3 (bs.map Bd.row)=BV at *
   simp[-a_load,-a_store,hlt2,f1,f2,f4,t1,t2,t3,t4,gl1,gl2,n2,n4,paste,AV.view]
end R9
