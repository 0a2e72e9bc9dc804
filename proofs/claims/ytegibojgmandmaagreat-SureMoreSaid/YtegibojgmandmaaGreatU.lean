/-
  Which local may be asked without a value: the document's walk.
-/
import Derived.Test.YtegibojgmandmaaGreatS
import Derived.Test.YtegibojgmandmaaGreatQ
import Derived.Test.YtegibojgmandmaaGreatT

set_option maxRecDepth 100000
set_option maxHeartbeats 8000000
namespace S9
open Ax Go Code9z V7 Par Chk K9
def uO (SV:AV)(f:Option Int):AObj:=.rows 0 3 [[SV,.int .i64 (cE f),.int .i64 (cX f)]]
def Holds (ic:Nat)(st:Store)(SV:AV)(su:List Bool):Prop:=(∃j v,SV=.mu j v/\st[j]?=some (sO v su)/\ic≠j)\/(SV=.nilSl/\su=[])
theorem holds_set {ic:Nat}{st:Store}{SV:AV}{su:List Bool}{o:AObj}(h:Holds ic st SV su):Holds ic (st.set ic o) SV su:=by
 rcases h with⟨j,v,rfl,h1,h2⟩|h
 ·exact .inl ⟨j,v,rfl,by rw[get_set_ne h2];exact h1,h2⟩
 ·exact .inr h
theorem uexpr_ok (e:E):∀(su:List Bool)(f:Option Int)(lim:Nat)(st:Store)(ic:Nat)(SV:AV),st[ic]?=some (uO SV f)->Holds ic st SV su->refE su.length e->E.sz e<1000000000->
  (orcL S).call 0 lim 40 [.ptr ic 0 0 0,.agg e.row] st=some (.tup [],st.set ic (uO SV (orO f (askE su e)))):=by
 induction e using E.ind with
 |_ e ih=>
  intro su f lim st ic SV hc hj hr hsz
  have hks:=E.sz_kids e
  have hkl:=E.szs_len e.kids
  have hz:isSz 11 (esV e.kids)=true:=isSz_E
  have hsl:isSl (esV e.kids)=true:=isSl_esV
  have hvw:(esV e.kids).view=esV e.kids:=view_esV
  have hrE:rowsL (esV e.kids)=E.rows e.kids:=rowsL_lstV
  have hrl:(E.rows e.kids).length=e.kids.length:=by simp
  have ewr:=fun wl lim a st=>U7.wrong_ok wl lim a st
  rw[refE_eq]at hr
  obtain⟨hr1,hr2⟩:=hr
  rw[refL_iff]at hr2
  rw[askE_eq,E.row_eq]
  have hil:ic<st.length:=(List.getElem?_eq_some_iff.1 hc).1
  generalize hkv:esV e.kids=kv at *
  refine call_run (sf:=s40) rfl rfl rfl ?_
  simp[s40,hsl]
  refine W_loopI s40_l0.eq_1 (fun x:Nat×Option Int=>⟨[(0,.val (.ptr ic 0 0 0)),(3,.fp 0 0),(4,.val (.int .i64 x.1))],[[.int .i64 e.k,.int .i64 e.n,.str e.nm,.str e.on,.int .i64 e.od,kv,.int .i64 e.a,.int .i64 e.ty.b,.int .i64 e.ty.r,.int .i64 e.ty.d,.int .i64 e.ref]],st.set ic (uO SV x.2)⟩)
   (fun x=>x.1<=e.kids.length/\orO x.2 (askL su (e.kids.drop x.1))=orO f (askL su e.kids)) (fun x=>e.kids.length-x.1) (0,f) (by simp[set_self hc]) ⟨by simp,by simp⟩ ?_
  rintro⟨k,g⟩ ⟨hk,hp⟩ ihl
  simp only at hk hp ihl
  have hc1:(st.set ic (uO SV g))[ic]?=some (uO SV g):=get_set_self hc
  have hj1:Holds ic (st.set ic (uO SV g)) SV su:=holds_set hj
  have hss:∀o,(st.set ic (uO SV g)).set ic o=st.set ic o:=fun o=>by rw[List.set_set]
  by_cases hlt:k<e.kids.length
  ·have hw:IntKind.i64.wrap ((k:Int)+1)=((k+1:Nat):Int):=by rw[wrap64]<;>omega
   have hm:=List.getElem_mem hlt
   have hcall:=fun lim=>ih _ hm su g lim (st.set ic (uO SV g)) ic SV hc1 hj1 (hr2 _ hm) (by have:=E.szs_mem hm;omega)
   rw[List.drop_eq_getElem_cons hlt,askL_cons,<-orO_assoc]at hp
   have ihl':=ihl (k+1,orO g (askE su e.kids[k])) ⟨by simp only;omega,hp⟩ (by simp only;omega)
   simp only at ihl'
   simp only[hss]at hcall
   have gE:=E_get hlt
   have hlt':k<(E.rows e.kids).length:=by simpa using hlt
   have gE'':=E_get' hlt hlt'
   rw[E.row_eq e.kids[k]]at hcall gE gE''
   have xv:isSl (esV e.kids[k].kids)=true:=isSl_esV
   have xw:(esV e.kids[k].kids).view=esV e.kids[k].kids:=view_esV
   generalize e.kids[k]=x at *
   generalize st.set ic (uO SV g)=s1 at *
   generalize st.set ic (uO SV (orO g (askE su x)))=s2 at *
   simp[hlt,hw,hz,hsl,hvw,hrE,gE'',hcall,xw,AV.view]
   exact ihl'
  ·have hkl:k=e.kids.length:=by omega
   rw[hkl,List.drop_length]at hp
   simp only[askL,orO_none]at hp
   subst hp
   rw[<-orO_assoc]
   clear ihl hc
   generalize orO f (askL su e.kids)=g at *
   have hl1:(st.set ic (uO SV g)).length=st.length:=by simp
   have ht1:(st.set ic (uO SV g)).take st.length=st.set ic (uO SV g):=List.take_of_length_le (by simp)
   have hc2:(st.set ic (uO SV g))[ic]?=some (.rows 0 3 [[SV,.int .i64 (cE g),.int .i64 (cX g)]]):=hc1
   have ht2:∀o,(st.set ic o).take st.length=st.set ic o:=fun o=>List.take_of_length_le (by simp)
   by_cases h4:e.k=4
   ·by_cases h0:0<=e.ref
    ·have hlr:=hr1 h4
     obtain⟨r,hrr⟩:∃r:Nat,e.ref=r:=⟨e.ref.toNat,by omega⟩
     have hrl2:r<su.length:=by omega
     obtain⟨j,v,rfl,hj2,hne⟩:∃j v,SV=.mu j v/\(st.set ic (uO SV g))[j]?=some (.rows v 1 (bools su))/\ic≠j:=by
      rcases hj1 with h|⟨_,h⟩
      ·exact h
      ·rw[h]at hrl2;simp at hrl2
     have hb:=bools_at hrl2
     have hsu:su[r]?=some su[r]:=List.getElem?_eq_getElem hrl2
     have h4':(e.k=4)=True:=eq_true h4
     have hco:(if e.k=4/\0<=e.ref/\su[e.ref.toNat]?=some false then some e.a else none)=(if su[r]=false then some e.a else none):=by rw[hrr,Int.toNat_natCast,hsu];simp[h4]
     rw[hco]
     rw[hrr]
     cases hx:su[r] with
     |true=>
      rw[hx]at hb
      simp only[Bool.true_eq_false,if_false,orO_none]
      generalize st.set ic (uO (.mu j v) g)=s1 at *
      simp[hlt,h4',hsl,hvw,hrE,hrl2,hc2,hj2,hx,ht1,W_draw0,noBoxes]
     |false=>
      rw[hx]at hb
      simp only[if_true]
      cases g with
      |none=>
       simp only[orO,cE,cX]at hc2 ⊢
       have hfin:(st.set ic (uO (.mu j v) none)).set ic (.rows 0 3 [[.mu j v,.int .i64 3,.int .i64 e.a]])=st.set ic (uO (.mu j v) (some e.a)):=hss _
       have ht3:=ht2 (uO (.mu j v) (some e.a))
       generalize st.set ic (uO (.mu j v) (some e.a))=s2 at *
       generalize st.set ic (uO (.mu j v) none)=s1 at *
       simp[hlt,h4',hsl,hvw,hrE,hrl2,hj2,hx,hc2,ewr,mayWrite,AV.allPure,AV.isPure,paste,hfin,ht3,W_draw0,noBoxes]
      |some y=>
       simp only[orO,cE,cX]at hc2 ⊢
       generalize st.set ic (uO (.mu j v) (some y))=s1 at *
       simp[hlt,h4',hsl,hvw,hrE,hrl2,hj2,hx,hc2,ht1,W_draw0,noBoxes]
    ·rw[if_neg (fun h=>h0 h.2.1),orO_none]
     have h4':(e.k=4)=True:=eq_true h4
     generalize st.set ic (uO SV g)=s1 at *
     simp[hlt,h4',h0,hsl,hvw,hrE,ht1,W_draw0,noBoxes]
   ·rw[if_neg (fun h=>h4 h.1),orO_none]
    generalize st.set ic (uO SV g)=s1 at *
    simp[hlt,h4,hsl,hvw,hrE,ht1,W_draw0,noBoxes]
theorem all_ok (su:List Bool)(f:Option Int)(lim:Nat)(st:Store)(ic:Nat)(SV:AV)(hc:st[ic]?=some (uO SV f))(hj:Holds ic st SV su)(hn:su.length<1000000000) :
  ∃st',(orcL S).call 0 lim 41 [.ptr ic 0 0 0] st=some (.tup [],st')/\((∃j v,SV=.mu j v/\st'=st.set j (sO v (su.map fun _=>true)))\/(SV=.nilSl/\st'=st)):=by
 rcases hj with⟨j,v,rfl,hj,hne⟩|⟨rfl,rfl⟩
 ·refine⟨st.set j (sO v (su.map fun _=>true)),?_,.inl ⟨j,v,rfl,rfl⟩⟩
  have hj:st[j]?=some (.rows v 1 (bools su)):=hj
  have hc1:∀o,(st.set j o)[ic]?=some (.rows 0 3 [[.mu j v,.int .i64 (cE f),.int .i64 (cX f)]]):=fun o=>by rw[get_set_ne (Ne.symm hne)];exact hc
  have hset:∀sk:List Bool,(st.set j (sO v sk))[j]?=some (.rows v 1 (bools sk)):=fun sk=>get_set_self hj
  have hss:∀(a b:AObj),(st.set j a).set j b=st.set j b:=fun a b=>by rw[List.set_set]
  have ht:∀o,(st.set j o).take st.length=st.set j o:=fun o=>List.take_of_length_le (by simp)
  refine call_run (sf:=s41) rfl rfl rfl ?_
  simp[s41]
  refine W_loopI s41_l0.eq_1 (fun k:Nat=>⟨[(0,.val (.ptr ic 0 0 0)),(2,.val (.int .i64 k))],[],st.set j (sO v (List.replicate k true++su.drop k))⟩)
   (fun k=>k<=su.length) (fun k=>su.length-k) 0 (by simp[set_self hj]) (by simp) ?_
  intro k hk ih
  have hl:(List.replicate k true++su.drop k).length=su.length:=by simp;omega
  have hh:=hset (List.replicate k true++su.drop k)
  have hcc:=hc1 (sO v (List.replicate k true++su.drop k))
  by_cases hlt:k<su.length
  ·have hw:IntKind.i64.wrap ((k:Int)+1)=((k+1:Nat):Int):=by rw[wrap64]<;>omega
   have hkl:k<(List.replicate k true++su.drop k).length:=by omega
   have hb:=bools_at hkl
   have hn:=rep_next hlt
   have ih':=ih (k+1) (by omega) (by omega)
   have hup:(st.set j (sO v (List.replicate k true++su.drop k))).set j (.rows v 1 (bools (List.replicate (k+1) true++su.drop (k+1))))=st.set j (sO v (List.replicate (k+1) true++su.drop (k+1))):=hss _ _
   generalize List.replicate (k+1) true++su.drop (k+1)=sk' at *
   generalize List.replicate k true++su.drop k=sk at *
   generalize st.set j (sO v sk)=s2 at *
   simp[hlt,hw,hh,hcc,hl,hn,hup,mayWrite,AV.allPure,AV.isPure,paste]
   exact ih'
  ·have hkl:k=su.length:=by omega
   have hfin:List.replicate k true++su.drop k=su.map fun _=>true:=by
    rw[hkl,List.drop_length,List.append_nil,List.map_const']
   rw[hfin]at hh hcc hl ⊢
   have ht1:=ht (sO v (su.map fun _=>true))
   generalize st.set j (sO v (su.map fun _=>true))=s2 at *
   simp[hlt,hh,hcc,hl,ht1]
 ·refine⟨st,?_,.inr ⟨rfl,rfl⟩⟩
  have hc:st[ic]?=some (.rows 0 3 [[.nilSl,.int .i64 (cE f),.int .i64 (cX f)]]):=hc
  refine call_run (sf:=s41) rfl rfl rfl ?_
  simp[s41]
  rw[W_round s41_l0.eq_1]
  simp[hc]
end S9
namespace S9
open Ax Go Code9z V7 Par Chk K9
structure Fr (ic:Nat)(st:Store)(SV:AV)(st':Store)(SV':AV):Prop where
 len:st.length<=st'.length
 old:∀i,i<st.length->i≠ic->(∀v,SV≠.mu i v)->st'[i]?=st[i]?
 own:∀i v,SV'=.mu i v->(∃v',SV=.mu i v')\/st.length<=i
theorem Fr.refl {ic:Nat}{st:Store}{SV:AV}:Fr ic st SV st SV:=⟨Nat.le_refl _,fun _ _ _ _=>rfl,fun _i v h=>.inl ⟨v,h⟩⟩
theorem Fr.trans {ic:Nat}{st st1 st2:Store}{SV SV1 SV2:AV}(h:Fr ic st SV st1 SV1)(k:Fr ic st1 SV1 st2 SV2):Fr ic st SV st2 SV2:=by
 refine⟨Nat.le_trans h.len k.len,fun i hi hne hv=>?_,fun i v e=>?_⟩
 ·rw[k.old i (by have:=h.len;omega) hne fun v e=>?_,h.old i hi hne hv]
  rcases h.own i v e with⟨v',e'⟩|hl
  ·exact hv v' e'
  ·omega
 ·rcases k.own i v e with⟨v',e'⟩|hl
  ·exact h.own i v' e'
  ·exact .inr (by have:=h.len;omega)
theorem Fr.cell {ic:Nat}{st:Store}{SV:AV}{o:AObj}:Fr ic st SV (st.set ic o) SV:=
 ⟨by simp,fun i hi hne _=>List.getElem?_set_ne (Ne.symm hne),fun i v h=>.inl ⟨v,h⟩⟩
def OkW (l:List Sm):Prop:=∀(su:List Bool)(f:Option Int)(st:Store)(ic:Nat)(SV:AV),st[ic]?=some (uO SV f)->Holds ic st SV su->refB su.length l->Sm.szs l<1000000000->su.length<1000000000->
 ∃st' SV',(orcL S).call 0 0 24 [.ptr ic 0 0 0,ssV l] st=some (.tup [],st')/\st'[ic]?=some (uO SV' (orO f (surB su l).2))/\Holds ic st' SV' (surB su l).1/\Fr ic st SV st' SV'
def bodyC:SCode->SCode
 |.seq _ (.seq (.block _ (.seq _ b)) _)=>b
 |x=>x
def body24:SCode:=bodyC s24_l2
def tail24:SCode:=sndC body24
theorem es_w (s:Sm)(su:List Bool)(f:Option Int)(st:Store)(ic:Nat)(SV:AV)(hc:st[ic]?=some (uO SV f))(hj:Holds ic st SV su)(hr:refL su.length s.es)(hsz:E.szs s.es<1000000000){rs:List SRes}{Q:Ex->St->Prop}{kk:List Todo}(lv:AV)(k0:Nat)
  (go:W S 0 0 rs Q (.code tail24::kk) .normal ⟨[(0,.val (.ptr ic 0 0 0)),(1,.val lv),(4,.val (.int .i64 k0)),(5,.fp 0 0)],[s.row],st.set ic (uO SV (orO f (askL su s.es)))⟩) :
  W S 0 0 rs Q (.code body24::kk) .normal ⟨[(0,.val (.ptr ic 0 0 0)),(1,.val lv),(4,.val (.int .i64 k0)),(5,.fp 0 0)],[s.row],st⟩:=by
 have hz:isSz 11 (esV s.es)=true:=isSz_E
 have hsl:isSl (esV s.es)=true:=isSl_esV
 have hvw:(esV s.es).view=esV s.es:=view_esV
 have hrE:rowsL (esV s.es)=E.rows s.es:=rowsL_lstV
 have hkl:=E.szs_len s.es
 rw[refL_iff]at hr
 have hil:ic<st.length:=(List.getElem?_eq_some_iff.1 hc).1
 rw[Sm.row_eq]at *
 generalize ssV s.bd=bv at *
 generalize ssV s.el=lw at *
 generalize hkv:esV s.es=kv at *
 show W S 0 0 rs Q (.code (.seq (.seq (.region [{ dst:=some 6,op:=.move,args:=[.const (.int .i64 0)],guard:=none }] none []) (.block 2 (.loop s24_l0))) tail24)::kk) .normal _
 generalize tail24=T at *
 simp
 refine W_loopI s24_l0.eq_1 (fun x:Nat×Option Int=>⟨[(0,.val (.ptr ic 0 0 0)),(1,.val lv),(4,.val (.int .i64 k0)),(5,.fp 0 0),(6,.val (.int .i64 x.1))],[[.int .i64 s.k,.str s.nm,.str s.on,.int .i64 s.od,kv,bv,lw,.int .i64 s.a,.int .i64 s.ref]],st.set ic (uO SV x.2)⟩)
  (fun x=>x.1<=s.es.length/\orO x.2 (askL su (s.es.drop x.1))=orO f (askL su s.es)) (fun x=>s.es.length-x.1) (0,f) (by simp[set_self hc]) ⟨by simp,by simp⟩ ?_
 rintro⟨k,g⟩ ⟨hk,hp⟩ ihl
 simp only at hk hp ihl
 have hc1:(st.set ic (uO SV g))[ic]?=some (uO SV g):=get_set_self hc
 have hj1:Holds ic (st.set ic (uO SV g)) SV su:=holds_set hj
 have hss:∀o,(st.set ic (uO SV g)).set ic o=st.set ic o:=fun o=>by rw[List.set_set]
 by_cases hlt:k<s.es.length
 ·have hw:IntKind.i64.wrap ((k:Int)+1)=((k+1:Nat):Int):=by rw[wrap64]<;>omega
  have hm:=List.getElem_mem hlt
  have hcall:=fun lim=>uexpr_ok s.es[k] su g lim (st.set ic (uO SV g)) ic SV hc1 hj1 (hr _ hm) (by have:=E.szs_mem hm;omega)
  rw[List.drop_eq_getElem_cons hlt,askL_cons,<-orO_assoc]at hp
  have ihl':=ihl (k+1,orO g (askE su s.es[k])) ⟨by simp only;omega,hp⟩ (by simp only;omega)
  simp only at ihl'
  simp only[hss]at hcall
  have gE:=E_get hlt
  have hlt':k<(E.rows s.es).length:=by simpa using hlt
  have gE'':=E_get' hlt hlt'
  rw[E.row_eq s.es[k]]at hcall gE gE''
  have xv:isSl (esV s.es[k].kids)=true:=isSl_esV
  have xw:(esV s.es[k].kids).view=esV s.es[k].kids:=view_esV
  generalize s.es[k]=x at *
  generalize st.set ic (uO SV g)=s1 at *
  generalize st.set ic (uO SV (orO g (askE su x)))=s2 at *
  simp[hlt,hw,hz,hsl,hvw,hrE,gE'',hcall,xw,AV.view]
  exact ihl'
 ·have hkl:k=s.es.length:=by omega
  rw[hkl,List.drop_length]at hp
  simp only[askL,orO_none]at hp
  subst hp
  simp[hlt,hsl,hvw,hrE]
  exact go
theorem holds_mu {ic:Nat}{st:Store}{j v:Nat}{su su':List Bool}(h:st[j]?=some (sO v su))(hne:ic≠j):Holds ic (st.set j (sO v su')) (.mu j v) su':=.inl ⟨j,v,rfl,get_set_self h,hne⟩
theorem Fr.mu {ic:Nat}{st:Store}{j v:Nat}{o:AObj}:Fr ic st (.mu j v) (st.set j o) (.mu j v):=
 ⟨by simp,fun i hi hne hv=>List.getElem?_set_ne (fun e=>hv v (by rw[e])),fun i v h=>.inl ⟨v,h⟩⟩
def StepW (s:Sm):Prop:=∀(su:List Bool)(f:Option Int)(st:Store)(ic:Nat)(SV:AV),st[ic]?=some (uO SV f)->Holds ic st SV su->refS su.length s->Sm.sz s<1000000000->su.length<1000000000->
 ∀{rs:List SRes} {Q:Ex->St->Prop} {kk:List Todo} (lv:AV) (k0:Nat),
  (∀st' SV',st'[ic]?=some (uO SV' (orO f (surS su s).2))->Holds ic st' SV' (surS su s).1->Fr ic st SV st' SV'->W S 0 0 rs Q kk .normal ⟨[(0,.val (.ptr ic 0 0 0)),(1,.val lv),(4,.val (.int .i64 k0))],[s.row],st'⟩)->
  W S 0 0 rs Q (.code body24::kk) .normal ⟨[(0,.val (.ptr ic 0 0 0)),(1,.val lv),(4,.val (.int .i64 k0)),(5,.fp 0 0)],[s.row],st⟩
theorem walk_of (l:List Sm)(hs:∀s∈l,StepW s):OkW l:=by
 intro su f st ic SV hc hj hr hsz hn
 have hz:isSz 9 (ssV l)=true:=isSz_Sm
 have hsl:isSl (ssV l)=true:=isSl_ssV
 have hvw:(ssV l).view=ssV l:=view_ssV
 have hrE:rowsL (ssV l)=Sm.rows l:=rowsL_lstV
 have hlen:=Sm.szs_len l
 rw[refB_iff]at hr
 obtain⟨v',st',h1,rfl,SV',h2⟩:∃v' st',(orcL S).call 0 0 24 [.ptr ic 0 0 0,ssV l] st=some (v',st')/\v'=.tup []/\∃SV',st'[ic]?=some (uO SV' (orO f (surB su l).2))/\Holds ic st' SV' (surB su l).1/\Fr ic st SV st' SV':=by
  refine call_ex (sf:=s24) rfl rfl rfl ?_
  generalize ssV l=lv at *
  simp[s24]
  refine W_loopI s24_l2.eq_1 (fun x:Nat×List Bool×Option Int×Store×AV×List AV=>⟨[(0,.val (.ptr ic 0 0 0)),(1,.val lv),(4,.val (.int .i64 x.1))],[x.2.2.2.2.2],x.2.2.2.1⟩)
   (fun x=>x.1<=l.length/\x.2.1.length=su.length/\orO x.2.2.1 (surB x.2.1 (l.drop x.1)).2=orO f (surB su l).2/\(surB x.2.1 (l.drop x.1)).1=(surB su l).1/\x.2.2.2.1[ic]?=some (uO x.2.2.2.2.1 x.2.2.1)/\Holds ic x.2.2.2.1 x.2.2.2.2.1 x.2.1/\Fr ic st SV x.2.2.2.1 x.2.2.2.2.1)
   (fun x=>l.length-x.1) (0,su,f,st,SV,[]) (by simp) ⟨by simp,rfl,by simp,by simp,hc,hj,Fr.refl⟩ ?_
  rintro⟨k,sk,g,cur,SVk,b⟩ ⟨hk,hsk,hp,hq,hck,hjk,hfr⟩ ih
  simp only at hk hsk hp hq hck hjk hfr ih
  by_cases hlt:k<l.length
  ·have hw:IntKind.i64.wrap ((k:Int)+1)=((k+1:Nat):Int):=by rw[wrap64]<;>omega
   have hm:=List.getElem_mem hlt
   have hstep:=fun {rs:List SRes} {Q:Ex->St->Prop} {kk:List Todo}=>hs _ hm sk g cur ic SVk hck hjk (by rw[hsk];exact hr _ hm) (by have:=Sm.szs_mem hm;omega) (by omega) (rs:=rs) (Q:=Q) (kk:=kk) lv k
   rw[List.drop_eq_getElem_cons hlt,surB_cons]at hp hq
   simp only at hp hq
   rw[<-orO_assoc]at hp
   have gE:=Sm_get hlt
   have hlt':k<(Sm.rows l).length:=by simpa using hlt
   have gE':=Sm_get' hlt hlt'
   obtain⟨e1,b1,l1⟩:=Smrow_cell (s:=l[k])
   have e2:(esV l[k].es).view=esV l[k].es:=view_esV
   have b2:(ssV l[k].bd).view=ssV l[k].bd:=view_ssV
   have l2:(ssV l[k].el).view=ssV l[k].el:=view_ssV
   show W S 0 0 _ _ (.code (.seq (.seq _ _) (.seq (.block 1 (.seq _ body24)) _))::_) .normal _
   have ih':=fun (st':Store) (SV':AV) (h1:st'[ic]?=some (uO SV' (orO g (surS sk l[k]).2))) (h2:Holds ic st' SV' (surS sk l[k]).1) (h3:Fr ic cur SVk st' SV')=>ih (k+1,(surS sk l[k]).1,orO g (surS sk l[k]).2,st',SV',l[k].row) ⟨by simp only;omega,by simp only[surS_len];exact hsk,hp,hq,h1,h2,hfr.trans h3⟩ (by simp only;omega)
   simp only at ih'
   simp only[Sm.row_eq l[k]]at gE gE' ih' hstep
   generalize body24=BD at *
   generalize esV l[k].es=xe at *
   generalize ssV l[k].bd=xb at *
   generalize ssV l[k].el=xl at *
   simp[hlt,hz,hsl,hvw,hrE,gE',e1,b1,l1,e2,b2,l2,paste]
   refine hstep fun st' SV' h1 h2 h3=>?_
   simp[hw]
   exact ih' st' SV' h1 h2 h3
  ·have hkl:k=l.length:=by omega
   rw[hkl,List.drop_length,surB_nil]at hp hq
   simp only[orO_none]at hp hq
   subst hp hq
   simp[hlt,hsl,hvw,hrE,ExQ_endO]
   exact⟨SVk,hck,hjk,hfr⟩
 exact⟨st',SV',h1,h2⟩
end S9
namespace S9
open Ax Go Code9z V7 Par Chk K9
theorem holds_view {ic:Nat}{st:Store}{SV:AV}{su:List Bool}(h:Holds ic st SV su):SV.view=SV/\SV.isCell=true/\SV.cells=[SV]:=by
 rcases h with⟨j,v,rfl,_⟩|⟨rfl,_⟩<;>exact⟨rfl,rfl,rfl⟩
theorem was_ok {ic:Nat}{st:Store}{SV:AV}{su:List Bool}(hi:ic<st.length)(h:Holds ic st SV su)(hn:su.length<1000000000):∃W ext,(∀lim bx,act0 0 lim (.appendM 1 1) [.val .nilSl,.val SV] st bx=some (.val W,st++ext,bx))/\Holds ic (st++ext) W su/\(∀i v,W=.mu i v->i=st.length/\st.length<(st++ext).length):=by
 by_cases hs:su=[]
 ·subst hs
  refine⟨.nilSl,[],fun lim bx=>?_,.inr ⟨rfl,rfl⟩,fun i v h=>by cases h⟩
  rcases h with⟨j,v,rfl,h1,h2⟩|⟨rfl,_⟩
  ·have h1:st[j]?=some (.rows v 1 []):=h1
   simp[act0,bringsOf,rowsOf,h1,fits]
  ·simp[act0,bringsOf,rowsOf,fits]
 ·rcases h with⟨j,v,rfl,h1,h2⟩|⟨_,h⟩
  ·refine⟨.mu st.length 0,[sO 0 su],fun lim bx=>?_,.inl ⟨st.length,0,rfl,by simp,by omega⟩,fun i v h=>by cases h;simp⟩
   have hf:fits 1 (bools su)=true:=by simp[fits,bools]
   have hr:su.length<=room:=by unfold room;omega
   have hne:(bools su).isEmpty=false:=by cases su with
    |nil=>exact absurd rfl hs
    |cons a l=>rfl
   have h1:st[j]?=some (.rows v 1 (bools su)):=h1
   simp[act0,bringsOf,rowsOf,h1,viewL_bools,hf,hr]
   cases su with
   |nil=>exact absurd rfl hs
   |cons a l=>simp[bools]
  ·exact absurd h hs
theorem zip_next2 {A B:List Bool}{k:Nat}(h1:k<A.length)(h2:k<B.length):((List.zipWith (fun a b=>a&&b) A B).take k++B.drop k).set k (A[k]&&B[k])=(List.zipWith (fun a b=>a&&b) A B).take (k+1)++B.drop (k+1):=by
 rw[List.drop_eq_getElem_cons h2,List.set_append_right _ _ (by simp;omega),List.take_succ_eq_append_getElem (by simp;omega)]
 have:k-((List.zipWith (fun a b=>a&&b) A B).take k).length=0:=by simp;omega
 rw[this]
 simp only[List.set_cons_zero,List.getElem_zipWith,List.append_assoc,List.singleton_append]
theorem zip_cur {A B:List Bool}{k:Nat}(h1:k<A.length)(h2:k<B.length)(h3:k<((List.zipWith (fun a b=>a&&b) A B).take k++B.drop k).length):((List.zipWith (fun a b=>a&&b) A B).take k++B.drop k)[k]=B[k]:=by
 rw[List.getElem_append_right (by simp;omega),List.getElem_drop]
 congr 1
 simp;omega
theorem step_ok (s:Sm)(hB:OkW s.bd)(hL:OkW s.el):StepW s:=by
 intro su f st ic SV hc hj hr hsz hn rs Q kk lv k0 go
 have hz:=Sm.sz_eq s
 obtain⟨r1,r2,r3,r4,r5⟩:=(refS_eq _ _).1 hr
 have hil:ic<st.length:=(List.getElem?_eq_some_iff.1 hc).1
 obtain⟨e1,b1,l1⟩:=Smrow_cell (s:=s)
 have b2:(ssV s.bd).view=ssV s.bd:=view_ssV
 have l2:(ssV s.el).view=ssV s.el:=view_ssV
 refine es_w s su f st ic SV hc hj r1 (by omega) lv k0 ?_
 rw[surS_eq]at go
 generalize hg:orO f (askL su s.es)=g at *
 have hc1:(st.set ic (uO SV g))[ic]?=some (uO SV g):=get_set_self hc
 have hj1:Holds ic (st.set ic (uO SV g)) SV su:=holds_set hj
 have hfr1:Fr ic st SV (st.set ic (uO SV g)) SV:=Fr.cell
 have hil1:ic<(st.set ic (uO SV g)).length:=by simpa using hil
 generalize st.set ic (uO SV g)=s1 at *
 clear hc hj
 rw[Sm.row_eq]at *
 generalize esV s.es=ev at *
 generalize hbv:ssV s.bd=bv at *
 generalize hlv:ssV s.el=lw at *
 by_cases h1:s.k=1
 ·obtain⟨h0,hlt⟩:=r2 (.inl h1)
  obtain⟨r,hrr⟩:∃r:Nat,s.ref=r:=⟨s.ref.toNat,by omega⟩
  have hrl:r<su.length:=by omega
  have h1':(s.k=1)=True:=eq_true h1
  obtain⟨j,v,rfl,hj2,hne⟩:∃j v,SV=.mu j v/\s1[j]?=some (.rows v 1 (bools su))/\ic≠j:=by
   rcases hj1 with h|⟨_,h⟩
   ·exact h
   ·rw[h]at hrl;simp at hrl
  rw[if_pos h1,hrr,Int.toNat_natCast,hg]at go
  have go:=go (s1.set j (sO v (su.set r false))) (.mu j v) (by rw[get_set_ne (Ne.symm hne)];exact hc1) (holds_mu hj2 hne) (hfr1.trans Fr.mu)
  have hc2:s1[ic]?=some (.rows 0 3 [[.mu j v,.int .i64 (cE g),.int .i64 (cX g)]]):=hc1
  have hb:=bools_at hrl
  simp[tail24,body24,bodyC,s24_l2,sndC,h1',hrr,hc2,hj2,hrl,mayWrite,AV.allPure,AV.isPure,paste,W_draw0,noBoxes]
  exact go
 rw[if_neg h1]at go
 by_cases h23:s.k=2\/s.k=3
 ·rw[if_pos h23]at go
  by_cases h0:0<=s.ref
  ·have hlt:s.ref<su.length:=by
    rcases h23 with h|h
    ·exact(r2 (.inr h)).2
    ·exact r3 h
   obtain⟨r,hrr⟩:∃r:Nat,s.ref=r:=⟨s.ref.toNat,by omega⟩
   have hrl:r<su.length:=by omega
   obtain⟨j,v,rfl,hj2,hne⟩:∃j v,SV=.mu j v/\s1[j]?=some (.rows v 1 (bools su))/\ic≠j:=by
    rcases hj1 with h|⟨_,h⟩
    ·exact h
    ·rw[h]at hrl;simp at hrl
   rw[if_pos h0,hrr,Int.toNat_natCast,hg]at go
   have go:=go (s1.set j (sO v (su.set r true))) (.mu j v) (by rw[get_set_ne (Ne.symm hne)];exact hc1) (holds_mu hj2 hne) (hfr1.trans Fr.mu)
   have hc2:s1[ic]?=some (.rows 0 3 [[.mu j v,.int .i64 (cE g),.int .i64 (cX g)]]):=hc1
   have hb:=bools_at hrl
   rcases h23 with h|h
   ·have h2':(s.k=2)=True:=eq_true h
    simp[tail24,body24,bodyC,s24_l2,sndC,h1,h2',hrr,hc2,hj2,hrl,mayWrite,AV.allPure,AV.isPure,paste,W_draw0,noBoxes]
    exact go
   ·have h2:¬s.k=2:=by omega
    have h3':(s.k=3)=True:=eq_true h
    simp[tail24,body24,bodyC,s24_l2,sndC,h1,h2,h3',hrr,hc2,hj2,hrl,mayWrite,AV.allPure,AV.isPure,paste,W_draw0,noBoxes]
    exact go
  ·have h3:s.k=3:=by
    rcases h23 with h|h
    ·exact absurd (r2 (.inr h)).1 h0
    ·exact h
   have h2:¬s.k=2:=by omega
   have h3':(s.k=3)=True:=eq_true h3
   rw[if_neg h0,hg]at go
   have go:=go s1 SV hc1 hj1 hfr1
   simp[tail24,body24,bodyC,s24_l2,sndC,h1,h2,h3',h0]
   exact go
 rw[if_neg h23]at go
 have h2:¬s.k=2:=fun h=>h23 (.inl h)
 have h3:¬s.k=3:=fun h=>h23 (.inr h)
 by_cases h7:s.k=7
 ·have h7':(s.k=7)=True:=eq_true h7
  rw[if_pos h7,hg]at go
  obtain⟨s2,hcall,hs2⟩:=all_ok su g 0 s1 ic SV hc1 hj1 hn
  have go:W S 0 0 rs Q kk .normal ⟨[(0,.val (.ptr ic 0 0 0)),(1,.val lv),(4,.val (.int .i64 k0))],[[.int .i64 s.k,.str s.nm,.str s.on,.int .i64 s.od,ev,bv,lw,.int .i64 s.a,.int .i64 s.ref]],s2⟩:=by
   rcases hs2 with⟨j,v,rfl,rfl⟩|⟨rfl,rfl⟩
   ·obtain⟨hj2,hne⟩:s1[j]?=some (sO v su)/\ic≠j:=by
     rcases hj1 with⟨j',v',e,h,h'⟩|⟨e,_⟩
     ·cases e;exact⟨h,h'⟩
     ·cases e
    exact go _ (.mu j v) (by rw[get_set_ne (Ne.symm hne)];exact hc1) (holds_mu hj2 hne) (hfr1.trans Fr.mu)
   ·refine go s2 .nilSl hc1 ?_ hfr1
    rcases hj1 with⟨_,_,e,_⟩|⟨_,rfl⟩
    ·cases e
    ·exact .inr ⟨rfl,rfl⟩
  simp[tail24,body24,bodyC,s24_l2,sndC,h1,h2,h3,h7',hcall]
  exact go
 rw[if_neg h7]at go
 by_cases h6:s.k=6
 ·have h6':(s.k=6)=True:=eq_true h6
  rw[if_pos h6]at go
  simp only at go
  rw[<-orO_assoc,hg]at go
  obtain⟨WS,ext,hw1,hw2,hw3⟩:=was_ok hil1 hj1 hn
  have hc2:(s1++ext)[ic]?=some (uO SV g):=by rw[List.getElem?_append_left hil1];exact hc1
  have hj2:Holds ic (s1++ext) SV su:=by
   rcases hj1 with⟨j,v,rfl,h,h'⟩|h
   ·exact .inl ⟨j,v,rfl,by rw[List.getElem?_append_left (List.getElem?_eq_some_iff.1 h).1];exact h,h'⟩
   ·exact .inr h
  have hSW:∀i v v',WS=.mu i v->SV≠.mu i v':=fun i v v' h e=>by
   obtain⟨hi,_⟩:=hw3 i v h
   rcases hj1 with⟨j,w,e2,h,_⟩|⟨e2,_⟩
   ·rw[e2]at e;cases e
    have:=(List.getElem?_eq_some_iff.1 h).1
    omega
   ·rw[e2]at e;cases e
  obtain⟨s3,SV3,hcall,hc3,hj3,hfr3⟩:=hB su g (s1++ext) ic SV hc2 hj2 r4 (by omega) hn
  rw[hbv]at hcall
  generalize hg2:orO g (surB su s.bd).2=g2 at *
  have hws:Holds ic s3 WS su:=by
   rcases hw2 with⟨j,v,rfl,h,h'⟩|h
   ·refine .inl ⟨j,v,rfl,?_,h'⟩
    rw[hfr3.old j (List.getElem?_eq_some_iff.1 h).1 (Ne.symm h') fun v'=>hSW j v v' rfl]
    exact h
   ·exact .inr h
  have hl3:s1.length<=s3.length:=by have:=hfr3.len;simp at this;omega
  have go:=go (s3.set ic (uO WS g2)) WS (get_set_self hc3) (holds_set hws) (by
   refine hfr1.trans ⟨by simpa using hl3,fun i hi hne hv=>?_,fun i v h=>.inr (by obtain⟨h1,_⟩:=hw3 i v h;omega)⟩
   rw[get_set_ne (Ne.symm hne),hfr3.old i (by simp;omega) hne hv,List.getElem?_append_left hi])
  obtain⟨wv,wc,wl⟩:=holds_view hws
  obtain⟨vv,vc,_⟩:=holds_view hj1
  have hc1':s1[ic]?=some (.rows 0 3 [[SV,.int .i64 (cE g),.int .i64 (cX g)]]):=hc1
  have hc3':s3[ic]?=some (.rows 0 3 [[SV3,.int .i64 (cE g2),.int .i64 (cX g2)]]):=hc3
  have hset:∀x,s3.set ic (.rows 0 3 [[x,.int .i64 (cE g2),.int .i64 (cX g2)]])=s3.set ic (uO x g2):=fun x=>rfl
  generalize s1++ext=s2 at *
  simp[tail24,body24,bodyC,s24_l2,sndC,h1,h2,h3,h7,h6',hc1',vv,wc,wl,hw1,hcall,b2,hc3',mayWrite,paste]
  exact go
 rw[if_neg h6]at go
 by_cases h5:s.k=5
 ·have h5':(s.k=5)=True:=eq_true h5
  rw[if_pos h5]at go
  simp only at go
  rw[<-orO_assoc,<-orO_assoc,hg]at go
  obtain⟨WS,ext,hw1,hw2,hw3⟩:=was_ok hil1 hj1 hn
  have hc2:(s1++ext)[ic]?=some (uO SV g):=by rw[List.getElem?_append_left hil1];exact hc1
  have hj2:Holds ic (s1++ext) SV su:=by
   rcases hj1 with⟨j,v,rfl,h,h'⟩|h
   ·exact .inl ⟨j,v,rfl,by rw[List.getElem?_append_left (List.getElem?_eq_some_iff.1 h).1];exact h,h'⟩
   ·exact .inr h
  have hSW:∀i v v',WS=.mu i v->SV≠.mu i v':=fun i v v' h e=>by
   obtain⟨hi,_⟩:=hw3 i v h
   rcases hj1 with⟨j,w,e2,h,_⟩|⟨e2,_⟩
   ·rw[e2]at e;cases e
    have:=(List.getElem?_eq_some_iff.1 h).1
    omega
   ·rw[e2]at e;cases e
  obtain⟨s3,SV3,hcall,hc3,hj3,hfr3⟩:=hB su g (s1++ext) ic SV hc2 hj2 r4 (by omega) hn
  rw[hbv]at hcall
  generalize hg2:orO g (surB su s.bd).2=g2 at *
  have hws:Holds ic s3 WS su:=by
   rcases hw2 with⟨j,v,rfl,h,h'⟩|h
   ·refine .inl ⟨j,v,rfl,?_,h'⟩
    rw[hfr3.old j (List.getElem?_eq_some_iff.1 h).1 (Ne.symm h') fun v'=>hSW j v v' rfl]
    exact h
   ·exact .inr h
  have hl3:s1.length<=s3.length:=by have:=hfr3.len;simp at this;omega
  have hfr4:Fr ic st SV (s3.set ic (uO WS g2)) WS:=by
   refine hfr1.trans ⟨by simpa using hl3,fun i hi hne hv=>?_,fun i v h=>.inr (by obtain⟨h1,_⟩:=hw3 i v h;omega)⟩
   rw[get_set_ne (Ne.symm hne),hfr3.old i (by simp;omega) hne hv,List.getElem?_append_left hi]
  obtain⟨s5,SV5,hcall5,hc5,hj5,hfr5⟩:=hL su g2 (s3.set ic (uO WS g2)) ic WS (get_set_self hc3) (holds_set hws) r5 (by omega) hn
  rw[hlv]at hcall5
  generalize hg3:orO g2 (surB su s.el).2=g3 at *
  have hone:∀i v v',SV3=.mu i v->WS≠.mu i v':=fun i v v' h e=>by
   obtain⟨hi,hi2⟩:=hw3 i v' e
   rcases hfr3.own i v h with⟨w,e2⟩|hl
   ·exact hSW i v' w e e2
   ·omega
  have hj35:Holds ic s5 SV3 (surB su s.bd).1:=by
   rcases hj3 with⟨j,v,rfl,h,h'⟩|h
   ·refine .inl ⟨j,v,rfl,?_,h'⟩
    rw[hfr5.old j (by simpa using (List.getElem?_eq_some_iff.1 h).1) (Ne.symm h') fun v'=>hone j v v' rfl,get_set_ne h']
    exact h
   ·exact .inr h
  have hap:∀i v v',SV5=.mu i v->SV3≠.mu i v':=fun i v v' h e=>by
   rcases hfr5.own i v h with⟨w,e2⟩|hl
   ·exact hone i v' w e e2
   ·rcases hj3 with⟨j,w,e2,h2,_⟩|⟨e2,_⟩
    ·rw[e2]at e;cases e
     have:=(List.getElem?_eq_some_iff.1 h2).1
     simp at hl;omega
    ·rw[e2]at e;cases e
  have hAl:(surB su s.bd).1.length=su.length:=surB_len _ _
  have hBl:(surB su s.el).1.length=su.length:=surB_len _ _
  generalize (surB su s.bd).1=A at *
  generalize (surB su s.el).1=B at *
  obtain⟨wv,wc,wl⟩:=holds_view hws
  obtain⟨vv,vc,_⟩:=holds_view hj1
  obtain⟨v3,c3,_⟩:=holds_view hj3
  have hc1':s1[ic]?=some (.rows 0 3 [[SV,.int .i64 (cE g),.int .i64 (cX g)]]):=hc1
  have hc3':s3[ic]?=some (.rows 0 3 [[SV3,.int .i64 (cE g2),.int .i64 (cX g2)]]):=hc3
  have hset:s3.set ic (.rows 0 3 [[WS,.int .i64 (cE g2),.int .i64 (cX g2)]])=s3.set ic (uO WS g2):=rfl
  generalize s1++ext=s2 at *
  generalize s3.set ic (uO WS g2)=s4 at *
  have hfr:Fr ic st SV s5 SV5:=hfr4.trans hfr5
  by_cases hs0:su.length=0
  ·have hA:A=[]:=List.eq_nil_of_length_eq_zero (by omega)
   have hBn:B=[]:=List.eq_nil_of_length_eq_zero (by omega)
   subst hA hBn
   have go:=go s5 SV5 hc5 (by simpa using hj5) hfr
   have hlen:lenV s5 .sl SV5=some 0:=by
    rcases hj5 with⟨j,v,rfl,h,_⟩|⟨rfl,_⟩
    ·have h:s5[j]?=some (.rows v 1 []):=h
     simp[h]
    ·simp
   obtain⟨v5,c5,_⟩:=holds_view hj5
   have hc5':s5[ic]?=some (.rows 0 3 [[SV5,.int .i64 (cE g3),.int .i64 (cX g3)]]):=hc5
   have hln:∀wl lim bx,act0 wl lim (.len .sl) [.val SV5] s5 bx=some (.val (.int .i64 0),s5,bx):=fun wl lim bx=>by rw[a_len,hlen];rfl
   simp[tail24,body24,bodyC,s24_l2,sndC,h1,h2,h3,h7,h6,h5',hc1',vv,v3,wc,wl,hw1,hcall,hcall5,b2,l2,hc3',hset,mayWrite,paste]
   rw[W_round s24_l1.eq_1]
   simp[-a_len,-lenV_sl,hc5',v5,hln]
   exact go
  ·obtain⟨j5,w5,rfl,hj5',hne5⟩:∃j v,SV5=.mu j v/\s5[j]?=some (.rows v 1 (bools B))/\ic≠j:=by
    rcases hj5 with h|⟨_,h⟩
    ·exact h
    ·rw[h]at hBl;simp at hBl;omega
   obtain⟨j3,w3,rfl,hj3',hne3⟩:∃j v,SV3=.mu j v/\s5[j]?=some (.rows v 1 (bools A))/\ic≠j:=by
    rcases hj35 with h|⟨_,h⟩
    ·exact h
    ·rw[h]at hAl;simp at hAl;omega
   have hj53:j5≠j3:=fun e=>hap j5 w5 w3 rfl (by rw[e])
   have hcS:∀o,(s5.set j5 o)[ic]?=some (.rows 0 3 [[.mu j5 w5,.int .i64 (cE g3),.int .i64 (cX g3)]]):=fun o=>by rw[get_set_ne (Ne.symm hne5)];exact hc5
   have hAS:∀o,(s5.set j5 o)[j3]?=some (.rows w3 1 (bools A)):=fun o=>by rw[get_set_ne hj53];exact hj3'
   have hBS:∀sk:List Bool,(s5.set j5 (sO w5 sk))[j5]?=some (.rows w5 1 (bools sk)):=fun sk=>get_set_self hj5'
   have hss:∀(a b:AObj),(s5.set j5 a).set j5 b=s5.set j5 b:=fun a b=>by rw[List.set_set]
   have zlen:(List.zipWith (fun a b=>a&&b) A B).length=su.length:=by simp[hAl,hBl]
   have go:=go (s5.set j5 (sO w5 (List.zipWith (fun a b=>a&&b) A B))) (.mu j5 w5) (hcS _) (holds_mu hj5' hne5) (hfr.trans Fr.mu)
   simp[tail24,body24,bodyC,s24_l2,sndC,h1,h2,h3,h7,h6,h5',hc1',vv,wc,wl,hw1,hcall,hcall5,b2,l2,hc3',hset,mayWrite,paste]
   refine W_loopI s24_l1.eq_1 (fun k:Nat=>⟨[(0,.val (.ptr ic 0 0 0)),(1,.val lv),(4,.val (.int .i64 k0)),(9,.val (.mu j3 w3)),(10,.val (.int .i64 k))],[[.int .i64 s.k,.str s.nm,.str s.on,.int .i64 s.od,ev,bv,lw,.int .i64 s.a,.int .i64 s.ref]],s5.set j5 (sO w5 ((List.zipWith (fun a b=>a&&b) A B).take k++B.drop k))⟩)
    (fun k=>k<=su.length) (fun k=>su.length-k) 0 (by simp[set_self hj5']) (by simp) ?_
   intro k hk ih
   have hl:((List.zipWith (fun a b=>a&&b) A B).take k++B.drop k).length=su.length:=by simp;omega
   have a1:=hcS (sO w5 ((List.zipWith (fun a b=>a&&b) A B).take k++B.drop k))
   have a2:=hAS (sO w5 ((List.zipWith (fun a b=>a&&b) A B).take k++B.drop k))
   have a3:=hBS ((List.zipWith (fun a b=>a&&b) A B).take k++B.drop k)
   by_cases hlt:k<su.length
   ·have hw:IntKind.i64.wrap ((k:Int)+1)=((k+1:Nat):Int):=by rw[wrap64]<;>omega
    have hkl:k<((List.zipWith (fun a b=>a&&b) A B).take k++B.drop k).length:=by omega
    have hlA:k<A.length:=by omega
    have hlB:k<B.length:=by omega
    have hcur:=zip_cur hlA hlB hkl
    have hn:=zip_next2 hlA hlB
    have bA:=bools_at hlA
    have bS:=bools_at hkl
    rw[hcur]at bS
    have ih':=ih (k+1) (by omega) (by omega)
    have a4:(s5.set j5 (sO w5 ((List.zipWith (fun a b=>a&&b) A B).take k++B.drop k))).set j5 (.rows w5 1 (bools ((List.zipWith (fun a b=>a&&b) A B).take (k+1)++B.drop (k+1))))=s5.set j5 (sO w5 ((List.zipWith (fun a b=>a&&b) A B).take (k+1)++B.drop (k+1))):=hss _ _
    generalize (List.zipWith (fun a b=>a&&b) A B).take (k+1)++B.drop (k+1)=sk' at *
    generalize (List.zipWith (fun a b=>a&&b) A B).take k++B.drop k=sk at *
    generalize s5.set j5 (sO w5 sk)=s6 at *
    cases hBk:B[k] with
    |true=>
     rw[hBk]at hn bS hcur
     rw[Bool.and_true]at hn
     simp[hlt,hw,a1,a2,a3,hl,hlA,hcur,hn,a4,mayWrite,AV.allPure,AV.isPure,paste,W_draw0,noBoxes]
     exact ih'
    |false=>
     rw[hBk]at hn bS hcur
     rw[Bool.and_false]at hn
     simp[hlt,hw,a1,a3,hl,hcur,hn,a4,mayWrite,AV.allPure,AV.isPure,paste,W_draw0,noBoxes]
     exact ih'
   ·have hkl:k=su.length:=by omega
    have hfin:(List.zipWith (fun a b=>a&&b) A B).take k++B.drop k=List.zipWith (fun a b=>a&&b) A B:=by
     rw[hkl,<-hBl,List.drop_length,List.append_nil,hBl,<-zlen,List.take_length]
    rw[hfin]at a1 a2 a3 hl ⊢
    generalize s5.set j5 (sO w5 (List.zipWith (fun a b=>a&&b) A B))=s6 at *
    simp[hlt,a1,a3,hl]
    exact go
 rw[if_neg h5,hg]at go
 have go:=go s1 SV hc1 hj1 hfr1
 simp[tail24,body24,bodyC,s24_l2,sndC,h1,h2,h3,h5,h6,h7]
 exact go
theorem in_ok (s:Sm):OkW s.bd/\OkW s.el:=by
 induction s using Sm.ind with
 |_ s ih1 ih2=>exact⟨walk_of s.bd fun x hx=>step_ok x (ih1 x hx).1 (ih1 x hx).2,walk_of s.el fun x hx=>step_ok x (ih2 x hx).1 (ih2 x hx).2⟩
theorem walk_ok (l:List Sm):OkW l:=walk_of l fun s _=>step_ok s (in_ok s).1 (in_ok s).2
end S9
namespace S9
open Ax Go Code9z V7 Par Chk K9
open N7 U7 in
theorem rsure_ok (wl lim:Nat)(p:Pg)(st:Store)(hg:(gdOf p).ok)(hsm:GD.sm (gdOf p))(hsz:∀f∈p.funcs,f.params.length+Sm.szs f.body<1000000000)
  (hcode:∀bs,ckF (hdOf p) (hdOf p).sigs p.funcs=.ok bs->∀b∈bs,Sm.szs b.code<1000000000/\b.vars.length<1000000000) :
  (orcL S).call wl lim 8 [.agg p.row] st=some (fltV (sureO p),st):=by
 have ec:=fun wl lim st=>R9.check_ok wl lim p st hg hsm hsz
 have hfn:p.funcs.length<1000000000:=by have:=hsm.funcs;rw[dFNs_gd,List.length_map]at this;exact this
 refine call_pure (sf:=s8) rfl rfl (by simp[Pg.row,AV.allPure,AV.isPure]) rfl (by simp[fltV,AV.isPure,AV.allPure]) ?_
 unfold typedV at ec
 unfold sureO
 have r1:isSl (lstV 3 (p.recs.map Rc.row))=true:=isSl_lstV
 have r2:(lstV 3 (p.recs.map Rc.row)).view=lstV 3 (p.recs.map Rc.row):=view_lstV
 have f1:isSl (lstV 7 (p.funcs.map Fc.row))=true:=isSl_lstV
 have f2:(lstV 7 (p.funcs.map Fc.row)).view=lstV 7 (p.funcs.map Fc.row):=view_lstV
 have g1:isSl (lstV 4 (p.globals.map PD.cells))=true:=isSl_lstV
 have g2:(lstV 4 (p.globals.map PD.cells)).view=lstV 4 (p.globals.map PD.cells):=view_lstV
 simp only[Pg.row]at ec ⊢
 generalize lstV 3 (p.recs.map Rc.row)=PR at *
 generalize lstV 7 (p.funcs.map Fc.row)=PF at *
 generalize lstV 4 (p.globals.map PD.cells)=PG at *
 cases hF:faultH (gdOf p) with
 |some a=>
  rw[hF]at ec
  simp only[fltV,cE,cX]at ec ⊢
  simp[s8,ec,r1,r2,f1,f2,g1,g2,paste,AV.view]
 |none=>
  rw[hF]at ec
  simp only at ec ⊢
  cases hR:ckF (hdOf p) (hdOf p).sigs p.funcs with
  |error a=>
   rw[hR]at ec
   simp only[bodV,fltV,cE,cX]at ec ⊢
   simp[s8,ec,r1,r2,f1,f2,g1,g2,paste,AV.view]
  |ok bs=>
   rw[hR]at ec
   simp only[bodV,hdCells,List.cons_append,List.nil_append]at ec ⊢
   have hcd2:=hcode bs hR
   clear hcode
   have hsl:(hdOf p).sigs.length=p.funcs.length:=by simp[hdOf]
   have hbl:=ckF_len hsl hR
   have hrefs:=ckF_refs hR
   have z1:isSl (lstV 3 (bs.map Bd.row))=true:=isSl_lstV
   have z2:(lstV 3 (bs.map Bd.row)).view=lstV 3 (bs.map Bd.row):=view_lstV
   have z3:rowsL (lstV 3 (bs.map Bd.row))=bs.map Bd.row:=rowsL_lstV
   have z4:isSz 3 (lstV 3 (bs.map Bd.row))=true:=isSz_lst (by simp[fits,Bd.row])
   have a1:isSl (lstV 2 ((hdOf p).shapes.map shRow))=true:=isSl_lstV
   have a2:(lstV 2 ((hdOf p).shapes.map shRow)).view=lstV 2 ((hdOf p).shapes.map shRow):=view_lstV
   have b1:isSl (lstV 6 ((hdOf p).sigs.map Sg.row))=true:=isSl_lstV
   have b2:(lstV 6 ((hdOf p).sigs.map Sg.row)).view=lstV 6 ((hdOf p).sigs.map Sg.row):=view_lstV
   have b3:rowsL (lstV 6 ((hdOf p).sigs.map Sg.row))=(hdOf p).sigs.map Sg.row:=rowsL_lstV
   have b4:isSz 6 (lstV 6 ((hdOf p).sigs.map Sg.row))=true:=isSz_lst (by simp[fits,Sg.row])
   have c1:isSl (fdsV (hdOf p).globals)=true:=isSl_fdsV
   have c2:(fdsV (hdOf p).globals).view=fdsV (hdOf p).globals:=view_fdsV
   generalize lstV 2 ((hdOf p).shapes.map shRow)=HS at *
   generalize lstV 6 ((hdOf p).sigs.map Sg.row)=HG at *
   generalize fdsV (hdOf p).globals=GL at *
   generalize lstV 3 (bs.map Bd.row)=BV at *
   have hkk:∀k:Nat,k<bs.length->k<(hdOf p).sigs.length:=fun k h=>by omega
   have hnb:bs.length<1000000000:=by omega
   generalize (hdOf p).sigs=SS at *
   clear hR
   simp[s8,ec,r1,r2,f1,f2,g1,g2,z1,z2,a1,a2,b1,b2,c1,c2,paste,AV.view]
   refine W_loopI s8_l1.eq_1 (fun x:Nat×Store=>⟨[(2,.fp 1 0),(3,.fp 2 0),(5,.val (.int .i64 x.1))],[[PR,PG,PF],[.int .i64 0,.int .i64 0],[HS,GL,HG,.int .i64 (mainP p),BV],[.int .i64 0,.int .i64 0]],x.2⟩)
    (fun x=>x.1<=bs.length/\surF (SS.drop x.1) (bs.drop x.1)=surF SS bs) (fun x=>bs.length-x.1) (0,[]) (by simp) ⟨by simp,by simp⟩ ?_
   rintro⟨k,obs⟩ ⟨hk,hp⟩ ih
   simp only at hk hp ih
   by_cases hlt:k<bs.length
   ·have hw:IntKind.i64.wrap ((k:Int)+1)=((k+1:Nat):Int):=by rw[wrap64]<;>omega
    have hks:=hkk k hlt
    rw[surF_drop hks hlt]at hp
    obtain⟨q1,q2⟩:=hrefs k hks hlt
    obtain⟨q3,q4⟩:=hcd2 _ (List.getElem_mem hlt)
    have gB':∀h:k<(bs.map Bd.row).length,(bs.map Bd.row)[k]=[fdsV bs[k].vars,ssV bs[k].code,.int .i64 bs[k].a]:=fun h=>by simp[Bd.row]
    have gS':∀h:k<(SS.map Sg.row).length,(SS.map Sg.row)[k]=[.str SS[k].nm,fdsV SS[k].ps,.bool SS[k].has,.int .i64 SS[k].res.b,.int .i64 SS[k].res.r,.int .i64 SS[k].res.d]:=fun h=>by simp[Sg.row]
    have hkRB:k<(bs.map Bd.row).length:=by simpa using hlt
    have hkRS:k<(SS.map Sg.row).length:=by simpa using hks
    have gB'':=gB' hkRB
    have gS'':=gS' hkRS
    clear gB' gS'
    have v1:isSl (fdsV bs[k].vars)=true:=isSl_fdsV
    have v2:(fdsV bs[k].vars).view=fdsV bs[k].vars:=view_fdsV
    have v3:(rowsL (fdsV bs[k].vars)).length=bs[k].vars.length:=by simp
    have w1:isSl (ssV bs[k].code)=true:=isSl_ssV
    have w2:(ssV bs[k].code).view=ssV bs[k].code:=view_ssV
    have p1:isSl (fdsV SS[k].ps)=true:=isSl_fdsV
    have p2:(fdsV SS[k].ps).view=fdsV SS[k].ps:=view_fdsV
    have p3:(rowsL (fdsV SS[k].ps)).length=SS[k].ps.length:=by simp
    have hroom:(bs[k].vars.length:Int)<=room:=by unfold room;omega
    have hbc:=walk_ok bs[k].code
    unfold su0 at hp
    have hsum:(List.replicate SS[k].ps.length true++List.replicate (bs[k].vars.length-SS[k].ps.length) false).length=bs[k].vars.length:=by simp;omega
    obtain⟨st',SV',hcall,hc',_,_⟩:=hbc (List.replicate SS[k].ps.length true++List.replicate (bs[k].vars.length-SS[k].ps.length) false) none (obs++[sO 0 (List.replicate SS[k].ps.length true++List.replicate (bs[k].vars.length-SS[k].ps.length) false),uO (.mu obs.length 0) none]) (obs.length+1) (.mu obs.length 0)
     (by rw[List.getElem?_append_right (by omega)];simp) (.inl ⟨obs.length,0,rfl,by simp,by omega⟩) (by rw[hsum];exact q2) q3 (by rw[hsum];exact q4)
    have ho:∀g:Option Int,orO none g=g:=fun g=>rfl
    rw[ho]at hc'
    generalize hcs:bs[k].code=cs at *
    generalize hbv:bs[k].vars.length=n at *
    generalize hbp:SS[k].ps.length=np at *
    generalize hfb:fdsV bs[k].vars=FV at *
    generalize hfp:fdsV SS[k].ps=FP at *
    generalize hsc:ssV cs=SC at *
    generalize bs[k]=bk at *
    generalize SS[k]=sk at *
    simp[-a_makeSlM,a_makeSlM,hlt,gB'',z1,z2,z3,z4,v1,v2,v3,hroom,bools_rep,paste,AV.view]
    refine W_loopI s8_l0.eq_1 (fun i:Nat=>⟨[(2,.fp 1 0),(3,.fp 2 0),(5,.val (.int .i64 k)),(6,.val (.ptr (obs.length+1) 0 0 0)),(7,.val (.int .i64 i))],[[PR,PG,PF],[.int .i64 0,.int .i64 0],[HS,GL,HG,.int .i64 (mainP p),BV],[.int .i64 0,.int .i64 0]],obs++[sO 0 (List.replicate i true++(List.replicate n false).drop i),.rows 0 3 [[.mu obs.length 0,.int .i64 0,.int .i64 0]]]⟩)
     (fun i=>i<=np) (fun i=>np-i) 0 (by simp) (by simp) ?_
    intro i hi ih2
    by_cases hil:i<np
    ·have hwi:IntKind.i64.wrap ((i:Int)+1)=((i+1:Nat):Int):=by rw[wrap64]<;>omega
     have hin:i<(List.replicate n false).length:=by simp;omega
     have hn:=rep_next hin
     have hll:(List.replicate i true++(List.replicate n false).drop i).length=n:=by simp;omega
     have hib:i<(List.replicate i true++(List.replicate n false).drop i).length:=by omega
     have hb:=bools_at hib
     have ih2':=ih2 (i+1) (by omega) (by omega)
     generalize List.replicate (i+1) true++(List.replicate n false).drop (i+1)=s2 at *
     generalize List.replicate i true++(List.replicate n false).drop i=s1 at *
     have hin2:i<n:=by omega
     simp[hil,hks,hwi,hll,hin2,hn,gS'',b2,b3,b4,p1,p2,p3,mayWrite,AV.allPure,AV.isPure,paste]
     exact ih2'
    ·have hik:i=np:=by omega
     rw[hik,su_init]
     generalize List.replicate np true++List.replicate (n-np) false=s0 at *
     cases hgv:(surB s0 cs).2 with
     |none=>
      rw[hgv]at hc' hp
      have hp:surF (SS.drop (k+1)) (bs.drop (k+1))=surF SS bs:=hp
      have ih':=fun o=>ih (k+1,o) ⟨by simp only;omega,hp⟩ (by simp only;omega)
      simp only at ih'
      simp only[uO,cE,cX]at hcall hc'
      simp[hcall,hc',hw,hks,gS'',gB'',hlt,b2,b3,b4,p1,p2,p3,z2,z3,z4,w2]
      exact ih' _
     |some a=>
      rw[hgv]at hc' hp
      have hp:some a=surF SS bs:=hp
      rw[<-hp]
      simp only[uO,cE,cX,fltV]at hcall hc' ⊢
      simp[hcall,hc',hks,gS'',gB'',hlt,b2,b3,b4,p1,p2,p3,z2,z3,z4,w2,paste]
   ·have hkl:k=bs.length:=by omega
    rw[hkl,List.drop_length,surF_end]at hp
    rw[<-hp]
    simp[hlt,z1,z2,z3,fltV,cE,cX,paste]
end S9
