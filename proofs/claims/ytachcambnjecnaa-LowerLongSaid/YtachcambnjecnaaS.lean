/-
  Which local may be asked without a value: the program's walk.
-/
import Derived.Test.YtachcambnjecnaaC
import Derived.Test.YtachcambnjecnaaP
import Derived.Test.YtachcambnjecnaaD

set_option maxRecDepth 100000
set_option maxHeartbeats 8000000
namespace S9
open Ax Go Code13 V7 Par Chk K9
theorem a_muNil {wl lim id ver:Nat}{neg:Bool}{st:Store}{bx:Boxes}:act0 wl lim (.muNil neg) [.val (.mu id ver),.val .nilSl] st bx=match st[id]? with
 |some (.rows v _ _)=>if v=ver then some (.val (.bool neg),st,bx) else none
 |_=>none:=rfl
def cE (f:Option Int):Int:=match f with|some _=>3|none=>0
def cX (f:Option Int):Int:=match f with|some x=>x|none=>0
def cO (f:Option Int):AObj:=.rows 0 2 [[.int .i64 (cE f),.int .i64 (cX f)]]
abbrev sO (v:Nat)(su:List Bool):AObj:=.rows v 1 (bools su)
theorem set_self {st:Store}{i:Nat}{o:AObj}(h:st[i]?=some o):st.set i o=st:=by
 obtain⟨h1,h2⟩:=List.getElem?_eq_some_iff.1 h
 rw[<-h2,List.set_getElem_self]
theorem get_set_self {st:Store}{i:Nat}{o p:AObj}(h:st[i]?=some o):(st.set i p)[i]?=some p:=by
 obtain⟨h1,_⟩:=List.getElem?_eq_some_iff.1 h
 rw[List.getElem?_set_self h1]
theorem get_set_ne {st:Store}{i j:Nat}{p:AObj}(h:i≠j):(st.set i p)[j]?=st[j]?:=List.getElem?_set_ne h
theorem bools_at {su:List Bool}{k:Nat}(h:k<su.length):(bools su)[k]?=some [.bool su[k]]:=by simp[bools,h]
theorem sexpr_ok (e:E):∀(su:List Bool)(f:Option Int)(lim:Nat)(st:Store)(ic j v:Nat),st[ic]?=some (cO f)->st[j]?=some (sO v su)->ic≠j->refE su.length e->E.sz e<1000000000->
  (orcL S).call 0 lim 60 [.ptr ic 0 0 0,.agg e.row,.mu j v] st=some (.tup [],st.set ic (cO (orO f (askE su e)))):=by
 induction e using E.ind with
 |_ e ih=>
  intro su f lim st ic j v hc hj hne hr hsz
  have hks:=E.sz_kids e
  have hkl:=E.szs_len e.kids
  have hz:isSz 11 (esV e.kids)=true:=isSz_E
  have hsl:isSl (esV e.kids)=true:=isSl_esV
  have hvw:(esV e.kids).view=esV e.kids:=view_esV
  have hrE:rowsL (esV e.kids)=E.rows e.kids:=rowsL_lstV
  have hrl:(E.rows e.kids).length=e.kids.length:=by simp
  rw[refE_eq]at hr
  obtain⟨hr1,hr2⟩:=hr
  rw[refL_iff]at hr2
  rw[askE_eq,E.row_eq]
  have hil:ic<st.length:=(List.getElem?_eq_some_iff.1 hc).1
  generalize hkv:esV e.kids=kv at *
  refine call_run (sf:=s60) rfl rfl rfl ?_
  simp[s60,hsl,hvw,hrE]
  refine W_loopI s60_l0.eq_1 (fun x:Nat×Option Int×List AV=>⟨[(0,.val (.ptr ic 0 0 0)),(2,.val (.mu j v)),(4,.fp 0 0),(9,.val kv),(10,.val (.int .i64 e.kids.length)),(11,.val (.int .i64 x.1))],[[.int .i64 e.k,.int .i64 e.n,.str e.nm,.str e.on,.int .i64 e.od,kv,.int .i64 e.a,.int .i64 e.ty.b,.int .i64 e.ty.r,.int .i64 e.ty.d,.int .i64 e.ref],x.2.2],st.set ic (cO x.2.1)⟩)
   (fun x=>x.1<=e.kids.length/\orO x.2.1 (askL su (e.kids.drop x.1))=orO f (askL su e.kids)) (fun x=>e.kids.length-x.1) (0,f,[]) (by simp[set_self hc]) ⟨by simp,by simp⟩ ?_
  rintro⟨k,g,b⟩ ⟨hk,hp⟩ ihl
  simp only at hk hp ihl
  have hc1:(st.set ic (cO g))[ic]?=some (cO g):=get_set_self hc
  have hj1:(st.set ic (cO g))[j]?=some (sO v su):=by rw[get_set_ne hne];exact hj
  have hss:∀o,(st.set ic (cO g)).set ic o=st.set ic o:=fun o=>by rw[List.set_set]
  by_cases hlt:k<e.kids.length
  ·have hw:IntKind.i64.wrap ((k:Int)+1)=((k+1:Nat):Int):=by rw[wrap64]<;>omega
   have hm:=List.getElem_mem hlt
   have hcall:=fun lim=>ih _ hm su g lim (st.set ic (cO g)) ic j v hc1 hj1 hne (hr2 _ hm) (by have:=E.szs_mem hm;omega)
   rw[List.drop_eq_getElem_cons hlt,askL_cons,<-orO_assoc]at hp
   have ihl':=fun b=>ihl (k+1,orO g (askE su e.kids[k]),b) ⟨by simp only;omega,hp⟩ (by simp only;omega)
   simp only at ihl'
   simp only[hss]at hcall
   have gE:=E_get hlt
   have gE':=fun h2=>E_get' hlt h2
   have hlt':k<(E.rows e.kids).length:=by simpa using hlt
   have gE'':=gE' hlt'
   clear gE'
   rw[E.row_eq e.kids[k]]at hcall gE gE''
   have xv:isSl (esV e.kids[k].kids)=true:=isSl_esV
   have xw:(esV e.kids[k].kids).view=esV e.kids[k].kids:=view_esV
   generalize e.kids[k]=x at *
   generalize st.set ic (cO g)=s1 at *
   generalize st.set ic (cO (orO g (askE su x)))=s2 at *
   simp[hlt,hw,hz,hvw,hrE,gE'',hcall,xv,xw,paste,AV.view]
   exact ihl' _
  ·have hkl:k=e.kids.length:=by omega
   rw[hkl,List.drop_length]at hp
   simp only[askL,orO_none]at hp
   subst hp
   rw[<-orO_assoc]
   clear ihl hc
   generalize orO f (askL su e.kids)=g at *
   have hl1:(st.set ic (cO g)).length=st.length:=by simp
   have ht1:(st.set ic (cO g)).take st.length=st.set ic (cO g):=List.take_of_length_le (by simp)
   have hc2:(st.set ic (cO g))[ic]?=some (.rows 0 2 [[.int .i64 (cE g),.int .i64 (cX g)]]):=hc1
   have hj2:(st.set ic (cO g))[j]?=some (.rows v 1 (bools su)):=hj1
   have ht2:∀o,(st.set ic o).take st.length=st.set ic o:=fun o=>List.take_of_length_le (by simp)
   by_cases h4:e.k=4
   ·by_cases h0:0<=e.ref
    ·have hlr:=hr1 h4
     obtain⟨r,hrr⟩:∃r:Nat,e.ref=r:=⟨e.ref.toNat,by omega⟩
     have hrl2:r<su.length:=by omega
     have hb:=bools_at hrl2
     have hsu:su[r]?=some su[r]:=List.getElem?_eq_getElem hrl2
     have hbl:(bools su).length=su.length:=by simp
     have h4':(e.k=4)=True:=eq_true h4
     have hco:(if e.k=4/\0<=e.ref/\su[e.ref.toNat]?=some false then some e.a else none)=(if su[r]=false then some e.a else none):=by rw[hrr,Int.toNat_natCast,hsu];simp[h4]
     rw[hco]
     rw[hrr]
     cases hx:su[r] with
     |true=>
      rw[hx]at hb
      simp only[Bool.true_eq_false,if_false,orO_none]
      generalize st.set ic (cO g)=s1 at *
      simp[hlt,h4',hrl2,hj2,hx,ht1]
     |false=>
      rw[hx]at hb
      simp only[if_true]
      cases g with
      |none=>
       simp only[orO,cE,cX]at hc2 ⊢
       have hfin:(st.set ic (cO none)).set ic (.rows 0 2 [[.int .i64 3,.int .i64 e.a]])=st.set ic (cO (some e.a)):=hss _
       have ht3:=ht2 (cO (some e.a))
       generalize st.set ic (cO (some e.a))=s2 at *
       generalize st.set ic (cO none)=s1 at *
       simp[hlt,h4',hrl2,hj2,hx,hc2,mayWrite,AV.allPure,AV.isPure,paste,hfin,ht3]
      |some y=>
       simp only[orO,cE,cX]at hc2 ⊢
       generalize st.set ic (cO (some y))=s1 at *
       simp[hlt,h4',hrl2,hj2,hx,hc2,ht1]
    ·rw[if_neg (fun h=>h0 h.2.1),orO_none]
     have h4':(e.k=4)=True:=eq_true h4
     generalize st.set ic (cO g)=s1 at *
     simp[hlt,h4',h0,ht1]
   ·rw[if_neg (fun h=>h4 h.1),orO_none]
    generalize st.set ic (cO g)=s1 at *
    simp[hlt,h4,ht1]
end S9
namespace S9
open Ax Go Code13 V7 Par Chk K9
theorem ExQ_retO {rs:List SRes}{st:Store}{P:AV->Store->Prop}{v:AV}{s:St}:ExQ rs Ax.Mode.opn st P (.ret v) s↔P v s.st:=by
 simp only[ExQ,RetQ_ret,Ax.Mode.fin]
 constructor
 ·rintro⟨r,h1,h2⟩
  cases h1
  exact h2
 ·exact fun h=>⟨(v,s.st),rfl,h⟩
theorem viewL_bools (su:List Bool):(bools su).map AV.viewL=bools su:=by
 simp only[bools,List.map_map]
 exact List.map_congr_left fun _ _=>rfl
theorem clone_ok (lim:Nat)(su:List Bool)(st:Store)(j v:Nat)(hj:st[j]?=some (sO v su))(hn:su.length<1000000000) :
  (orcL S).call 0 lim 44 [.mu j v] st=some (.mu st.length 0,st++[sO 0 su]):=by
 have hap:∀lim bx,act0 0 lim (.appendM 1 1) [.val .emp,.val (.mu j v)] st bx=some (.val (.mu st.length 0),st++[sO 0 su],bx):=fun lim bx=>by
  have hf:fits 1 (bools su)=true:=by simp[fits,bools]
  have hr:su.length<=room:=by unfold room;omega
  simp[act0,appM,bringsOf,rowsOf,hj,viewL_bools,hf,hr]
 refine call_run (sf:=s44) rfl rfl rfl ?_
 simp[s44,a_muNil,hj,hap]
def OkSt (s:Sm):Prop:=∀(su:List Bool)(f:Option Int)(lim:Nat)(st:Store)(ic j v:Nat),st[ic]?=some (cO f)->st[j]?=some (sO v su)->ic≠j->refS su.length s->Sm.sz s<1000000000->su.length<1000000000->
 ∃ext,(orcL S).call 0 lim 45 [.ptr ic 0 0 0,.agg s.row,.mu j v] st=some (.mu j v,(st.set ic (cO (orO f (surS su s).2))).set j (sO v (surS su s).1)++ext)
def OkBl (l:List Sm):Prop:=∀(su:List Bool)(f:Option Int)(lim:Nat)(st:Store)(ic j v:Nat),st[ic]?=some (cO f)->st[j]?=some (sO v su)->ic≠j->refB su.length l->Sm.szs l<1000000000->su.length<1000000000->
 ∃ext,(orcL S).call 0 lim 26 [.ptr ic 0 0 0,ssV l,.mu j v] st=some (.mu st.length 0,st.set ic (cO (orO f (surB su l).2))++sO 0 (surB su l).1::ext)
theorem block_ok (l:List Sm)(hl:∀s∈l,OkSt s):OkBl l:=by
 intro su f lim st ic j v hc hj hne hr hsz hn
 have hz:isSz 9 (ssV l)=true:=isSz_Sm
 have hsl:isSl (ssV l)=true:=isSl_ssV
 have hvw:(ssV l).view=ssV l:=view_ssV
 have hrE:rowsL (ssV l)=Sm.rows l:=rowsL_lstV
 have hlen:=Sm.szs_len l
 have hil:ic<st.length:=(List.getElem?_eq_some_iff.1 hc).1
 have ecl:=fun lim=>clone_ok lim su st j v hj hn
 rw[refB_iff]at hr
 have hne2:ic≠st.length:=by omega
 obtain⟨v',st',h1,rfl,ext,rfl⟩:∃v' st',(orcL S).call 0 lim 26 [.ptr ic 0 0 0,ssV l,.mu j v] st=some (v',st')/\v'=.mu st.length 0/\∃ext,st'=st.set ic (cO (orO f (surB su l).2))++sO 0 (surB su l).1::ext:=by
  refine call_ex (sf:=s26) rfl rfl rfl ?_
  generalize ssV l=lv at *
  simp[s26,hsl,hvw,hrE,ecl]
  refine W_loopI s26_l0.eq_1 (fun x:Nat×List Bool×Option Int×Store×List AV=>⟨[(0,.val (.ptr ic 0 0 0)),(2,.val (.mu st.length 0)),(11,.val lv),(12,.val (.int .i64 l.length)),(13,.val (.int .i64 x.1))],[x.2.2.2.2],st.set ic (cO x.2.2.1)++sO 0 x.2.1::x.2.2.2.1⟩)
   (fun x=>x.1<=l.length/\x.2.1.length=su.length/\orO x.2.2.1 (surB x.2.1 (l.drop x.1)).2=orO f (surB su l).2/\(surB x.2.1 (l.drop x.1)).1=(surB su l).1) (fun x=>l.length-x.1) (0,su,f,[],[]) (by simp[set_self hc]) ⟨by simp,rfl,by simp,by simp⟩ ?_
  rintro⟨k,sk,g,ext,b⟩ ⟨hk,hsk,hp,hq⟩ ih
  simp only at hk hsk hp hq ih
  by_cases hlt:k<l.length
  ·have hw:IntKind.i64.wrap ((k:Int)+1)=((k+1:Nat):Int):=by rw[wrap64]<;>omega
   have hm:=List.getElem_mem hlt
   have hc1:(st.set ic (cO g)++sO 0 sk::ext)[ic]?=some (cO g):=by
    rw[List.getElem?_append_left (by simpa using hil)];exact get_set_self hc
   have hj1:(st.set ic (cO g)++sO 0 sk::ext)[st.length]?=some (sO 0 sk):=by
    rw[List.getElem?_append_right (by simp)];simp
   have hup:∀g' s',((st.set ic (cO g)++sO 0 sk::ext).set ic (cO g')).set st.length (sO 0 s')=st.set ic (cO g')++sO 0 s'::ext:=fun g' s'=>by
    rw[List.set_append_left _ _ (by simpa using hil),List.set_set,List.set_append_right _ _ (by simp)];simp
   obtain⟨ext2,hcall⟩:=hl _ hm sk g lim _ ic st.length 0 hc1 hj1 hne2 (by rw[hsk];exact hr _ hm) (by have:=Sm.szs_mem hm;omega) (by omega)
   rw[hup]at hcall
   rw[List.drop_eq_getElem_cons hlt,surB_cons]at hp hq
   simp only at hp hq
   rw[<-orO_assoc]at hp
   have ih':=fun b=>ih (k+1,(surS sk l[k]).1,orO g (surS sk l[k]).2,ext++ext2,b) ⟨by simp only;omega,by simp only[surS_len];exact hsk,hp,hq⟩ (by simp only;omega)
   simp only at ih'
   have hap:st.set ic (cO (orO g (surS sk l[k]).2))++sO 0 (surS sk l[k]).1::ext++ext2=st.set ic (cO (orO g (surS sk l[k]).2))++sO 0 (surS sk l[k]).1::(ext++ext2):=by simp
   rw[hap]at hcall
   have gE:=Sm_get hlt
   have hlt':k<(Sm.rows l).length:=by simpa using hlt
   have gE':=Sm_get' hlt hlt'
   obtain⟨e1,b1,l1⟩:isSl (esV l[k].es)=true/\isSl (ssV l[k].bd)=true/\isSl (ssV l[k].el)=true:=⟨isSl_esV,isSl_ssV,isSl_ssV⟩
   have e2:(esV l[k].es).view=esV l[k].es:=view_esV
   have b2:(ssV l[k].bd).view=ssV l[k].bd:=view_ssV
   have l2:(ssV l[k].el).view=ssV l[k].el:=view_ssV
   rw[Sm.row_eq]at hcall gE gE'
   generalize st.set ic (cO (orO g (surS sk l[k]).2))++sO 0 (surS sk l[k]).1::(ext++ext2)=s2 at *
   generalize st.set ic (cO g)++sO 0 sk::ext=s1 at *
   generalize l[k]=x at *
   generalize esV x.es=xe at *
   generalize ssV x.bd=xb at *
   generalize ssV x.el=xl at *
   simp[hlt,hw,hz,hvw,hrE,gE',hcall,e1,b1,l1,e2,b2,l2,paste,AV.view]
   exact ih' _
  ·have hkl:k=l.length:=by omega
   rw[hkl,List.drop_length,surB_nil]at hp hq
   simp only[orO_none]at hp hq
   subst hp hq
   simp[hlt,ExQ_retO]
 exact⟨ext,h1⟩
end S9
namespace S9
open Ax Go Code13 V7 Par Chk K9
theorem Smrow_cell {s:Sm}:isSl (esV s.es)=true/\isSl (ssV s.bd)=true/\isSl (ssV s.el)=true:=⟨isSl_esV,isSl_ssV,isSl_ssV⟩
def sndC:SCode->SCode
 |.seq _ b=>b
 |x=>x
def tail39:SCode:=sndC (sndC s45.body)
theorem es_ok (s:Sm)(su:List Bool)(f:Option Int)(lim:Nat)(st:Store)(ic j v:Nat)(hc:st[ic]?=some (cO f))(hj:st[j]?=some (sO v su))(hne:ic≠j)(hr:refL su.length s.es)(hsz:E.szs s.es<1000000000){Q:Ex->St->Prop}
  (go:∀b,W S 0 lim s45.results Q [.code tail39] .normal ⟨[(0,.val (.ptr ic 0 0 0)),(2,.val (.mu j v)),(4,.fp 0 0)],[s.row,b],st.set ic (cO (orO f (askL su s.es)))⟩) :
  W S 0 lim s45.results Q [.code s45.body] .normal (begS s45 [.ptr ic 0 0 0,.agg s.row,.mu j v] st):=by
 have hz:isSz 11 (esV s.es)=true:=isSz_E
 have hsl:isSl (esV s.es)=true:=isSl_esV
 have hvw:(esV s.es).view=esV s.es:=view_esV
 have hrE:rowsL (esV s.es)=E.rows s.es:=rowsL_lstV
 have hkl:=E.szs_len s.es
 rw[refL_iff]at hr
 have hil:ic<st.length:=(List.getElem?_eq_some_iff.1 hc).1
 obtain⟨_,b1,l1⟩:=Smrow_cell (s:=s)
 rw[Sm.row_eq]at *
 generalize ssV s.bd=bv at *
 generalize ssV s.el=lv at *
 generalize hkv:esV s.es=kv at *
 simp[s45,hsl,hvw,hrE,b1,l1]
 show W S 0 lim s45.results Q [.code (.loop s45_l0),.blk 0,.code tail39] .normal _
 generalize tail39=T at *
 refine W_loopI s45_l0.eq_1 (fun x:Nat×Option Int×List AV=>⟨[(0,.val (.ptr ic 0 0 0)),(2,.val (.mu j v)),(4,.fp 0 0),(14,.val kv),(15,.val (.int .i64 s.es.length)),(16,.val (.int .i64 x.1))],[[.int .i64 s.k,.str s.nm,.str s.on,.int .i64 s.od,kv,bv,lv,.int .i64 s.a,.int .i64 s.ref],x.2.2],st.set ic (cO x.2.1)⟩)
  (fun x=>x.1<=s.es.length/\orO x.2.1 (askL su (s.es.drop x.1))=orO f (askL su s.es)) (fun x=>s.es.length-x.1) (0,f,[]) (by simp[set_self hc]) ⟨by simp,by simp⟩ ?_
 rintro⟨k,g,b⟩ ⟨hk,hp⟩ ihl
 simp only at hk hp ihl
 have hc1:(st.set ic (cO g))[ic]?=some (cO g):=get_set_self hc
 have hj1:(st.set ic (cO g))[j]?=some (sO v su):=by rw[get_set_ne hne];exact hj
 have hss:∀o,(st.set ic (cO g)).set ic o=st.set ic o:=fun o=>by rw[List.set_set]
 by_cases hlt:k<s.es.length
 ·have hw:IntKind.i64.wrap ((k:Int)+1)=((k+1:Nat):Int):=by rw[wrap64]<;>omega
  have hm:=List.getElem_mem hlt
  have hcall:=fun lim=>sexpr_ok s.es[k] su g lim (st.set ic (cO g)) ic j v hc1 hj1 hne (hr _ hm) (by have:=E.szs_mem hm;omega)
  rw[List.drop_eq_getElem_cons hlt,askL_cons,<-orO_assoc]at hp
  have ihl':=fun b=>ihl (k+1,orO g (askE su s.es[k]),b) ⟨by simp only;omega,hp⟩ (by simp only;omega)
  simp only at ihl'
  simp only[hss]at hcall
  have gE:=E_get hlt
  have hlt':k<(E.rows s.es).length:=by simpa using hlt
  have gE'':=E_get' hlt hlt'
  rw[E.row_eq s.es[k]]at hcall gE gE''
  have xv:isSl (esV s.es[k].kids)=true:=isSl_esV
  have xw:(esV s.es[k].kids).view=esV s.es[k].kids:=view_esV
  generalize s.es[k]=x at *
  generalize st.set ic (cO g)=s1 at *
  generalize st.set ic (cO (orO g (askE su x)))=s2 at *
  simp[hlt,hw,hz,hvw,hrE,gE'',hcall,xv,xw,paste,AV.view]
  exact ihl' _
 ·have hkl:k=s.es.length:=by omega
  rw[hkl,List.drop_length]at hp
  simp only[askL,orO_none]at hp
  subst hp
  have go:=go b
  simp[hlt]
  exact go
theorem rep_next {su:List Bool}{k:Nat}(h:k<su.length):(List.replicate k true++su.drop k).set k true=List.replicate (k+1) true++su.drop (k+1):=by
 rw[List.drop_eq_getElem_cons h,List.set_append_right _ _ (by simp)]
 simp only[List.length_replicate,Nat.sub_self,List.set_cons_zero,List.replicate_succ',List.append_assoc,List.singleton_append]
theorem stmt_ok (s:Sm):OkSt s:=by
 induction s using Sm.ind with
 |_ s ih1 ih2=>
  intro su f lim st ic j v hc hj hne hr hsz hn
  have hz:=Sm.sz_eq s
  obtain⟨r1,r2,r3,r4,r5⟩:=(refS_eq _ _).1 hr
  have hil:ic<st.length:=(List.getElem?_eq_some_iff.1 hc).1
  have hjl:j<st.length:=(List.getElem?_eq_some_iff.1 hj).1
  obtain⟨e1,b1,l1⟩:=Smrow_cell (s:=s)
  have b2:(ssV s.bd).view=ssV s.bd:=view_ssV
  have l2:(ssV s.el).view=ssV s.el:=view_ssV
  have hB:=block_ok s.bd ih1
  have hL:=block_ok s.el ih2
  suffices hx:∃v' st',(orcL S).call 0 lim 45 [.ptr ic 0 0 0,.agg s.row,.mu j v] st=some (v',st')/\v'=.mu j v/\∃ext,st'=(st.set ic (cO (orO f (surS su s).2))).set j (sO v (surS su s).1)++ext by
   obtain⟨v',st',h1,rfl,ext,rfl⟩:=hx
   exact⟨ext,h1⟩
  refine call_ex (sf:=s45) rfl rfl rfl (es_ok s su f _ st ic j v hc hj hne r1 (by omega) fun b=>?_)
  rw[surS_eq,Sm.row_eq]
  generalize hg:orO f (askL su s.es)=g at *
  have hc1:(st.set ic (cO g))[ic]?=some (cO g):=get_set_self hc
  have hj1:(st.set ic (cO g))[j]?=some (.rows v 1 (bools su)):=by rw[get_set_ne hne];exact hj
  have hj0:(st.set ic (cO g)).set j (sO v su)=st.set ic (cO g):=set_self hj1
  generalize esV s.es=ev at *
  generalize hbv:ssV s.bd=bv at *
  generalize hlv:ssV s.el=lv at *
  by_cases h1:s.k=1
  ·obtain⟨h0,hlt⟩:=r2 (.inl h1)
   obtain⟨r,hrr⟩:∃r:Nat,s.ref=r:=⟨s.ref.toNat,by omega⟩
   have hrl:r<su.length:=by omega
   have h1':(s.k=1)=True:=eq_true h1
   have hb:=bools_at hrl
   rw[if_pos h1,hrr,Int.toNat_natCast]
   simp only
   rw[hg]
   generalize st.set ic (cO g)=s1 at *
   simp[tail39,sndC,s45,h1',hj1,hrl,mayWrite,AV.allPure,AV.isPure,paste,ExQ_retO]
  rw[if_neg h1]
  by_cases h23:s.k=2\/s.k=3
  ·rw[if_pos h23]
   by_cases h0:0<=s.ref
   ·have hlt:s.ref<su.length:=by
     rcases h23 with h|h
     ·exact(r2 (.inr h)).2
     ·exact r3 h
    obtain⟨r,hrr⟩:∃r:Nat,s.ref=r:=⟨s.ref.toNat,by omega⟩
    have hrl:r<su.length:=by omega
    have hb:=bools_at hrl
    rw[if_pos h0,hrr,Int.toNat_natCast]
    simp only
    rw[hg]
    generalize st.set ic (cO g)=s1 at *
    rcases h23 with h|h
    ·have h2':(s.k=2)=True:=eq_true h
     simp[tail39,sndC,s45,h1,h2',hj1,hrl,mayWrite,AV.allPure,AV.isPure,paste,ExQ_retO]
    ·have h2:¬s.k=2:=by omega
     have h3':(s.k=3)=True:=eq_true h
     simp[tail39,sndC,s45,h1,h2,h3',hj1,hrl,mayWrite,AV.allPure,AV.isPure,paste,ExQ_retO]
   ·have h3:s.k=3:=by
     rcases h23 with h|h
     ·exact absurd (r2 (.inr h)).1 h0
     ·exact h
    have h2:¬s.k=2:=by omega
    have h3':(s.k=3)=True:=eq_true h3
    rw[if_neg h0]
    simp only
    rw[hg,hj0]
    generalize st.set ic (cO g)=s1 at *
    simp[tail39,sndC,s45,h1,h2,h3',h0,ExQ_retO]
  rw[if_neg h23]
  have h2:¬s.k=2:=fun h=>h23 (.inl h)
  have h3:¬s.k=3:=fun h=>h23 (.inr h)
  by_cases h7:s.k=7
  ·have h7':(s.k=7)=True:=eq_true h7
   rw[if_pos h7]
   simp only
   rw[hg]
   have hset:∀sk:List Bool,((st.set ic (cO g)).set j (sO v sk))[j]?=some (.rows v 1 (bools sk)):=fun sk=>get_set_self hj1
   have hss:∀(a b:AObj),((st.set ic (cO g)).set j a).set j b=(st.set ic (cO g)).set j b:=fun a b=>by rw[List.set_set]
   generalize st.set ic (cO g)=s1 at *
   simp[tail39,sndC,s45,h1,h2,h3,h7',hj1]
   refine W_loopI s45_l1.eq_1 (fun k:Nat=>⟨[(2,.val (.mu j v)),(46,.val (.int .i64 su.length)),(47,.val (.int .i64 k))],[[.int .i64 s.k,.str s.nm,.str s.on,.int .i64 s.od,ev,bv,lv,.int .i64 s.a,.int .i64 s.ref],b],s1.set j (sO v (List.replicate k true++su.drop k))⟩)
    (fun k=>k<=su.length) (fun k=>su.length-k) 0 (by simp[hj0]) (by simp) ?_
   intro k hk ih
   by_cases hlt:k<su.length
   ·have hw:IntKind.i64.wrap ((k:Int)+1)=((k+1:Nat):Int):=by rw[wrap64]<;>omega
    have hl:(List.replicate k true++su.drop k).length=su.length:=by simp;omega
    have hkl:k<(List.replicate k true++su.drop k).length:=by omega
    have hb:=bools_at hkl
    have hh:=hset (List.replicate k true++su.drop k)
    have hn:=rep_next hlt
    have ih':=ih (k+1) (by omega) (by omega)
    have hup:(s1.set j (sO v (List.replicate k true++su.drop k))).set j (.rows v 1 (bools (List.replicate (k+1) true++su.drop (k+1))))=s1.set j (sO v (List.replicate (k+1) true++su.drop (k+1))):=hss _ _
    generalize List.replicate (k+1) true++su.drop (k+1)=sk' at *
    generalize List.replicate k true++su.drop k=sk at *
    generalize s1.set j (sO v sk)=s2 at *
    simp[hlt,hw,hh,hl,hn,hup,mayWrite,AV.allPure,AV.isPure,paste]
    exact ih'
   ·have hkl:k=su.length:=by omega
    have hfin:List.replicate k true++su.drop k=su.map fun _=>true:=by
     rw[hkl,List.drop_length,List.append_nil,List.map_const']
    rw[hfin]
    simp[hlt,ExQ_retO]
  rw[if_neg h7]
  by_cases h6:s.k=6
  ·have h6':(s.k=6)=True:=eq_true h6
   rw[if_pos h6]
   simp only
   rw[<-orO_assoc,hg]
   obtain⟨ext,hcall⟩:=hB su g lim (st.set ic (cO g)) ic j v hc1 hj1 hne r4 (by omega) hn
   rw[hbv,List.set_set,List.length_set]at hcall
   have hfin:(st.set ic (cO (orO g (surB su s.bd).2))).set j (sO v su)=st.set ic (cO (orO g (surB su s.bd).2)):=set_self (by rw[get_set_ne hne];exact hj)
   rw[hfin]
   generalize st.set ic (cO (orO g (surB su s.bd).2))=s2 at *
   generalize st.set ic (cO g)=s1 at *
   simp[tail39,sndC,s45,h1,h2,h3,h7,h6',hcall,b2,ExQ_retO]
  rw[if_neg h6]
  by_cases h5:s.k=5
  ·have h5':(s.k=5)=True:=eq_true h5
   rw[if_pos h5]
   simp only
   rw[<-orO_assoc,<-orO_assoc,hg]
   obtain⟨ext,hcall⟩:=hB su g lim (st.set ic (cO g)) ic j v hc1 hj1 hne r4 (by omega) hn
   rw[hbv,List.set_set,List.length_set]at hcall
   generalize hA:(surB su s.bd).1=A at *
   generalize hg2:orO g (surB su s.bd).2=g2 at *
   have hAl:A.length=su.length:=by rw[<-hA,surB_len]
   have hBl:(surB su s.el).1.length=su.length:=surB_len _ _
   have hc2:(st.set ic (cO g2)++sO 0 A::ext)[ic]?=some (cO g2):=by
    rw[List.getElem?_append_left (by simpa using hil)];exact get_set_self hc
   have hj2:(st.set ic (cO g2)++sO 0 A::ext)[j]?=some (sO v su):=by
    rw[List.getElem?_append_left (by simpa using hjl),get_set_ne hne];exact hj
   obtain⟨ext2,hcall2⟩:=hL su g2 lim _ ic j v hc2 hj2 hne r5 (by omega) hn
   rw[hlv]at hcall2
   generalize hBB:(surB su s.el).1=B at *
   generalize hg3:orO g2 (surB su s.el).2=g3 at *
   have hset2:(st.set ic (cO g2)++sO 0 A::ext).set ic (cO g3)=st.set ic (cO g3)++sO 0 A::ext:=by
    rw[List.set_append_left _ _ (by simpa using hil),List.set_set]
   rw[hset2]at hcall2
   have hT:st.set ic (cO g3)++sO 0 A::ext++sO 0 B::ext2=st.set ic (cO g3)++(sO 0 A::ext++sO 0 B::ext2):=by simp
   rw[hT]at hcall2
   have hka:st.length≠j:=by omega
   have hkb:(st.set ic (cO g2)++sO 0 A::ext).length≠j:=by simp;omega
   have gA:∀sk,((st.set ic (cO g3)).set j (sO v sk)++(sO 0 A::ext++sO 0 B::ext2))[st.length]?=some (.rows 0 1 (bools A)):=fun sk=>by
    rw[List.getElem?_append_right (by simp)];simp
   have gB:∀sk,((st.set ic (cO g3)).set j (sO v sk)++(sO 0 A::ext++sO 0 B::ext2))[(st.set ic (cO g2)++sO 0 A::ext).length]?=some (.rows 0 1 (bools B)):=fun sk=>by
    rw[List.getElem?_append_right (by simp),List.getElem?_append_right (by simp)];simp
   have gJ:∀sk,((st.set ic (cO g3)).set j (sO v sk)++(sO 0 A::ext++sO 0 B::ext2))[j]?=some (.rows v 1 (bools sk)):=fun sk=>by
    rw[List.getElem?_append_left (by simpa using hjl),List.getElem?_set_self (by simpa using hjl)]
   have gS:∀sk sk',((st.set ic (cO g3)).set j (sO v sk)++(sO 0 A::ext++sO 0 B::ext2)).set j (.rows v 1 (bools sk'))=(st.set ic (cO g3)).set j (sO v sk')++(sO 0 A::ext++sO 0 B::ext2):=fun sk sk'=>by
    rw[List.set_append_left _ _ (by simpa using hjl),List.set_set]
   have g0:st.set ic (cO g3)++(sO 0 A::ext++sO 0 B::ext2)=(st.set ic (cO g3)).set j (sO v su)++(sO 0 A::ext++sO 0 B::ext2):=by
    rw[set_self (show (st.set ic (cO g3))[j]?=some (sO v su) by rw[get_set_ne hne];exact hj)]
   rw[g0]at hcall2
   have hJ0:=gJ su
   generalize (st.set ic (cO g2)++sO 0 A::ext).length=kb at *
   generalize hEX:sO 0 A::ext++sO 0 B::ext2=EX at *
   generalize st.set ic (cO g2)++sO 0 A::ext=s2 at *
   generalize st.set ic (cO g)=s1 at *
   generalize st.set ic (cO g3)=s3 at *
   generalize st.length=ka at *
   have zip_next:∀k (h:k<su.length) (h1:k<A.length) (h2:k<B.length),((List.zipWith (fun a b=>a&&b) A B).take k++su.drop k).set k (A[k]&&B[k])=(List.zipWith (fun a b=>a&&b) A B).take (k+1)++su.drop (k+1):=fun k h h1 h2=>by
    rw[List.drop_eq_getElem_cons h,List.set_append_right _ _ (by simp;omega),List.take_succ_eq_append_getElem (by simp;omega)]
    have:k-((List.zipWith (fun a b=>a&&b) A B).take k).length=0:=by simp;omega
    rw[this]
    simp only[List.set_cons_zero,List.getElem_zipWith,List.append_assoc,List.singleton_append]
   have zlen:(List.zipWith (fun a b=>a&&b) A B).length=su.length:=by simp[hAl,hBl]
   generalize hZ:List.zipWith (fun a b=>a&&b) A B=Z at *
   simp[tail39,sndC,s45,h1,h2,h3,h7,h6,h5',hcall,hcall2,b2,l2,hJ0,W_draw0,noBoxes]
   refine W_loopI s45_l2.eq_1 (fun k:Nat=>⟨[(2,.val (.mu j v)),(10,.val (.mu ka 0)),(11,.val (.mu kb 0)),(74,.val (.int .i64 su.length)),(75,.val (.int .i64 k))],[[.int .i64 s.k,.str s.nm,.str s.on,.int .i64 s.od,ev,bv,lv,.int .i64 s.a,.int .i64 s.ref],b],s3.set j (sO v (Z.take k++su.drop k))++EX⟩)
    (fun k=>k<=su.length) (fun k=>su.length-k) 0 (by simp) (by simp) ?_
   intro k hk ih
   by_cases hlt:k<su.length
   ·have hw:IntKind.i64.wrap ((k:Int)+1)=((k+1:Nat):Int):=by rw[wrap64]<;>omega
    have hl:(Z.take k++su.drop k).length=su.length:=by simp;omega
    have hkl:k<(Z.take k++su.drop k).length:=by omega
    have hlA:k<A.length:=by omega
    have hlB:k<B.length:=by omega
    have hb:=bools_at hkl
    have bA:=bools_at hlA
    have bB:=bools_at hlB
    have a1:=gA (Z.take k++su.drop k)
    have a2:=gB (Z.take k++su.drop k)
    have a3:=gJ (Z.take k++su.drop k)
    have a4:=gS (Z.take k++su.drop k) (Z.take (k+1)++su.drop (k+1))
    have hn:=zip_next k hlt hlA hlB
    have ih':=ih (k+1) (by omega) (by omega)
    generalize Z.take (k+1)++su.drop (k+1)=sk' at *
    generalize Z.take k++su.drop k=sk at *
    generalize s3.set j (sO v sk)++EX=s4 at *
    cases hAk:A[k] with
    |true=>
     rw[hAk]at hn bA
     rw[Bool.true_and]at hn
     simp[hlt,hw,a1,a2,a3,hl,hlA,hlB,hAk,hn,a4,mayWrite,AV.allPure,AV.isPure,paste]
     exact ih'
    |false=>
     rw[hAk]at hn bA
     rw[Bool.false_and]at hn
     simp[hlt,hw,a1,a3,hl,hlA,hAk,hn,a4,mayWrite,AV.allPure,AV.isPure,paste]
     exact ih'
   ·have hkl:k=su.length:=by omega
    have hfin:Z.take k++su.drop k=Z:=by
     rw[hkl,List.drop_length,List.append_nil,<-zlen,List.take_length]
    rw[hfin]
    simp[hlt,ExQ_retO]
  rw[if_neg h5]
  simp only
  rw[hg,hj0]
  generalize st.set ic (cO g)=s1 at *
  simp[tail39,sndC,s45,h1,h2,h3,h5,h6,h7,ExQ_retO]
end S9
namespace S9
open Ax Go Code13 V7 Par Chk K9
open N7 U7 in
def sureO (p:Pg):Option Int:=match faultH (gdOf p) with
 |some a=>some a
 |none=>match ckF (hdOf p) (hdOf p).sigs p.funcs with
  |.error a=>some a
  |.ok bs=>surF (hdOf p).sigs bs
def fltV (o:Option Int):AV:=.agg [.int .i64 (cE o),.int .i64 (cX o)]
theorem bl_ok (l:List Sm):OkBl l:=block_ok l fun s _=>stmt_ok s
theorem bools_rep {n:Nat}:List.replicate n [AV.bool false]=bools (List.replicate n false):=by simp[bools]
theorem su_init {np n:Nat}:List.replicate np true++(List.replicate n false).drop np=List.replicate np true++List.replicate (n-np) false:=by rw[List.drop_replicate]
theorem ckF_len {H:Hd}:∀{ss:List Sg}{fs:List Fc}{bs:List Bd},ss.length=fs.length->ckF H ss fs=.ok bs->bs.length=fs.length
 |[],[],bs,_,h=>by unfold ckF at h;cases h;rfl
 |[],_::_,_,h,_=>by simp at h
 |_::_,[],_,h,_=>by simp at h
 |s::ss,f::fs,bs,hl,h=>by
  unfold ckF at h
  split at h
  ·cases h
  ·split at h
   ·cases h
   ·rename_i l hl2
    cases h
    have:=ckF_len (by simpa using hl) hl2
    simp[this]
theorem surF_drop {ss:List Sg}{bs:List Bd}{k:Nat}(h:k<ss.length)(h2:k<bs.length):surF (ss.drop k) (bs.drop k)=orO (surB (su0 ss[k] bs[k]) bs[k].code).2 (surF (ss.drop (k+1)) (bs.drop (k+1))):=by
 rw[List.drop_eq_getElem_cons h,List.drop_eq_getElem_cons h2];rfl
theorem surF_end {ss:List Sg}:surF ss []=none:=by cases ss<;>rfl
open N7 U7 in
theorem sure_ok (wl lim:Nat)(p:Pg)(st:Store)(hg:(gdOf p).ok)(hsm:GD.sm (gdOf p))(hsz:∀f∈p.funcs,f.params.length+Sm.szs f.body<1000000000)
  (hcode:∀bs,ckF (hdOf p) (hdOf p).sigs p.funcs=.ok bs->∀b∈bs,Sm.szs b.code<1000000000/\b.vars.length<1000000000) :
  (orcL S).call wl lim 11 [.agg p.row] st=some (fltV (sureO p),st):=by
 have ec:=fun wl lim st=>K9.check_ok wl lim p st hg hsm hsz
 have hfn:p.funcs.length<1000000000:=by have:=hsm.funcs;rw[dFNs_gd,List.length_map]at this;exact this
 refine call_pure (sf:=s11) rfl rfl (by simp[Pg.row,AV.allPure,AV.isPure]) rfl (by simp[fltV,AV.isPure,AV.allPure]) ?_
 unfold typedV at ec
 unfold sureO
 have r1:isSl (lstV 3 (p.recs.map Rc.row))=true:=isSl_lstV
 have r2:(lstV 3 (p.recs.map Rc.row)).view=lstV 3 (p.recs.map Rc.row):=view_lstV
 have f1:isSl (lstV 7 (p.funcs.map Fc.row))=true:=isSl_lstV
 have f2:(lstV 7 (p.funcs.map Fc.row)).view=lstV 7 (p.funcs.map Fc.row):=view_lstV
 have g1:isSl (lstV 4 (p.globals.map PD.cells))=true:=isSl_lstV
 have g2:(lstV 4 (p.globals.map PD.cells)).view=lstV 4 (p.globals.map PD.cells):=view_lstV
 simp only[Pg.row]at ec ⊢
 generalize lstV 3 (p.recs.map Rc.row)=PR at *
 generalize lstV 7 (p.funcs.map Fc.row)=PF at *
 generalize lstV 4 (p.globals.map PD.cells)=PG at *
 cases hF:faultH (gdOf p) with
 |some a=>
  rw[hF]at ec
  simp only[fltV,cE,cX]at ec ⊢
  simp[s11,ec,r1,r2,f1,f2,g1,g2,paste,AV.view]
 |none=>
  rw[hF]at ec
  simp only at ec ⊢
  cases hR:ckF (hdOf p) (hdOf p).sigs p.funcs with
  |error a=>
   rw[hR]at ec
   simp only[bodV,fltV,cE,cX]at ec ⊢
   simp[s11,ec,r1,r2,f1,f2,g1,g2,paste,AV.view]
  |ok bs=>
   rw[hR]at ec
   simp only[bodV,hdCells,List.cons_append,List.nil_append]at ec ⊢
   have hcd2:=hcode bs hR
   clear hcode
   have hsl:(hdOf p).sigs.length=p.funcs.length:=by simp[hdOf]
   have hbl:=ckF_len hsl hR
   have hrefs:=ckF_refs hR
   have z1:isSl (lstV 3 (bs.map Bd.row))=true:=isSl_lstV
   have z2:(lstV 3 (bs.map Bd.row)).view=lstV 3 (bs.map Bd.row):=view_lstV
   have z3:rowsL (lstV 3 (bs.map Bd.row))=bs.map Bd.row:=rowsL_lstV
   have z4:isSz 3 (lstV 3 (bs.map Bd.row))=true:=isSz_lst (by simp[fits,Bd.row])
   have a1:isSl (lstV 2 ((hdOf p).shapes.map shRow))=true:=isSl_lstV
   have a2:(lstV 2 ((hdOf p).shapes.map shRow)).view=lstV 2 ((hdOf p).shapes.map shRow):=view_lstV
   have b1:isSl (lstV 6 ((hdOf p).sigs.map Sg.row))=true:=isSl_lstV
   have b2:(lstV 6 ((hdOf p).sigs.map Sg.row)).view=lstV 6 ((hdOf p).sigs.map Sg.row):=view_lstV
   have b3:rowsL (lstV 6 ((hdOf p).sigs.map Sg.row))=(hdOf p).sigs.map Sg.row:=rowsL_lstV
   have b4:isSz 6 (lstV 6 ((hdOf p).sigs.map Sg.row))=true:=isSz_lst (by simp[fits,Sg.row])
   have c1:isSl (fdsV (hdOf p).globals)=true:=isSl_fdsV
   have c2:(fdsV (hdOf p).globals).view=fdsV (hdOf p).globals:=view_fdsV
   generalize lstV 2 ((hdOf p).shapes.map shRow)=HS at *
   generalize lstV 6 ((hdOf p).sigs.map Sg.row)=HG at *
   generalize fdsV (hdOf p).globals=GL at *
   generalize lstV 3 (bs.map Bd.row)=BV at *
   have hkk:∀k:Nat,k<bs.length->k<(hdOf p).sigs.length:=fun k h=>by omega
   have hnb:bs.length<1000000000:=by omega
   generalize (hdOf p).sigs=SS at *
   clear hR
   simp[s11,ec,r1,r2,f1,f2,g1,g2,z1,z2,z3,a1,a2,b1,b2,c1,c2,paste,AV.view]
   refine W_loopI s11_l1.eq_1 (fun x:Nat×Store×List AV=>⟨[(2,.fp 1 0),(3,.fp 2 0),(20,.val BV),(21,.val (.int .i64 bs.length)),(22,.val (.int .i64 x.1))],[[PR,PG,PF],[.int .i64 0,.int .i64 0],[HS,GL,HG,.int .i64 (mainP p),BV],[.int .i64 0,.int .i64 0],x.2.2],x.2.1⟩)
    (fun x=>x.1<=bs.length/\surF (SS.drop x.1) (bs.drop x.1)=surF SS bs) (fun x=>bs.length-x.1) (0,[],[]) (by simp) ⟨by simp,by simp⟩ ?_
   rintro⟨k,obs,b5⟩ ⟨hk,hp⟩ ih
   simp only at hk hp ih
   by_cases hlt:k<bs.length
   ·have hw:IntKind.i64.wrap ((k:Int)+1)=((k+1:Nat):Int):=by rw[wrap64]<;>omega
    have hks:=hkk k hlt
    rw[surF_drop hks hlt]at hp
    obtain⟨q1,q2⟩:=hrefs k hks hlt
    obtain⟨q3,q4⟩:=hcd2 _ (List.getElem_mem hlt)
    have gB':∀h:k<(bs.map Bd.row).length,(bs.map Bd.row)[k]=[fdsV bs[k].vars,ssV bs[k].code,.int .i64 bs[k].a]:=fun h=>by simp[Bd.row]
    have gS':∀h:k<(SS.map Sg.row).length,(SS.map Sg.row)[k]=[.str SS[k].nm,fdsV SS[k].ps,.bool SS[k].has,.int .i64 SS[k].res.b,.int .i64 SS[k].res.r,.int .i64 SS[k].res.d]:=fun h=>by simp[Sg.row]
    have hkRB:k<(bs.map Bd.row).length:=by simpa using hlt
    have hkRS:k<(SS.map Sg.row).length:=by simpa using hks
    have gB'':=gB' hkRB
    have gS'':=gS' hkRS
    clear gB' gS'
    have v1:isSl (fdsV bs[k].vars)=true:=isSl_fdsV
    have v2:(fdsV bs[k].vars).view=fdsV bs[k].vars:=view_fdsV
    have v3:(rowsL (fdsV bs[k].vars)).length=bs[k].vars.length:=by simp
    have w1:isSl (ssV bs[k].code)=true:=isSl_ssV
    have w2:(ssV bs[k].code).view=ssV bs[k].code:=view_ssV
    have p1:isSl (fdsV SS[k].ps)=true:=isSl_fdsV
    have p2:(fdsV SS[k].ps).view=fdsV SS[k].ps:=view_fdsV
    have p3:(rowsL (fdsV SS[k].ps)).length=SS[k].ps.length:=by simp
    have hroom:(bs[k].vars.length:Int)<=room:=by unfold room;omega
    have hbc:=bl_ok bs[k].code
    unfold su0 at hp
    have hsum:(List.replicate SS[k].ps.length true++List.replicate (bs[k].vars.length-SS[k].ps.length) false).length=bs[k].vars.length:=by simp;omega
    have hcall:=fun lim=>hbc (List.replicate SS[k].ps.length true++List.replicate (bs[k].vars.length-SS[k].ps.length) false) none lim (obs++[sO 0 (List.replicate SS[k].ps.length true++List.replicate (bs[k].vars.length-SS[k].ps.length) false),cO none]) (obs.length+1) obs.length 0
     (by rw[List.getElem?_append_right (by omega)];simp) (by simp) (by omega) (by rw[hsum];exact q2) q3 (by rw[hsum];exact q4)
    obtain⟨ext,hcall⟩:=hcall 0
    have hset:∀g,(obs++[sO 0 (List.replicate SS[k].ps.length true++List.replicate (bs[k].vars.length-SS[k].ps.length) false),cO none]).set (obs.length+1) (cO g)=obs++[sO 0 (List.replicate SS[k].ps.length true++List.replicate (bs[k].vars.length-SS[k].ps.length) false),cO g]:=fun g=>by
     rw[List.set_append_right _ _ (by omega)];simp
    rw[hset]at hcall
    have ho:∀g:Option Int,orO none g=g:=fun g=>rfl
    rw[ho]at hcall
    generalize hcs:bs[k].code=cs at *
    generalize hbv:bs[k].vars.length=n at *
    generalize hbp:SS[k].ps.length=np at *
    generalize hfb:fdsV bs[k].vars=FV at *
    generalize hfp:fdsV SS[k].ps=FP at *
    generalize hsc:ssV cs=SC at *
    generalize bs[k]=bk at *
    generalize SS[k]=sk at *
    simp[-a_makeSlM,a_makeSlM,hlt,hks,gB'',gS'',z2,z3,z4,b2,b3,b4,v1,v2,v3,w1,w2,p1,p2,p3,hroom,bools_rep,paste,AV.view]
    refine W_loopI s11_l0.eq_1 (fun i:Nat=>⟨[(2,.fp 1 0),(3,.fp 2 0),(6,.fp 4 0),(7,.val (.mu obs.length 0)),(20,.val BV),(21,.val (.int .i64 bs.length)),(22,.val (.int .i64 k)),(38,.val (.int .i64 np)),(39,.val (.int .i64 i))],[[PR,PG,PF],[.int .i64 0,.int .i64 0],[HS,GL,HG,.int .i64 (mainP p),BV],[.int .i64 0,.int .i64 0],[FV,SC,.int .i64 bk.a]],obs++[sO 0 (List.replicate i true++(List.replicate n false).drop i)]⟩)
     (fun i=>i<=np) (fun i=>np-i) 0 (by simp) (by simp) ?_
    intro i hi ih2
    by_cases hil:i<np
    ·have hwi:IntKind.i64.wrap ((i:Int)+1)=((i+1:Nat):Int):=by rw[wrap64]<;>omega
     have hin:i<(List.replicate n false).length:=by simp;omega
     have hn:=rep_next hin
     have hll:(List.replicate i true++(List.replicate n false).drop i).length=n:=by simp;omega
     have hib:i<(List.replicate i true++(List.replicate n false).drop i).length:=by omega
     have hb:=bools_at hib
     have ih2':=ih2 (i+1) (by omega) (by omega)
     generalize List.replicate (i+1) true++(List.replicate n false).drop (i+1)=s2 at *
     generalize List.replicate i true++(List.replicate n false).drop i=s1 at *
     have hin2:i<n:=by omega
     simp[hil,hwi,hll,hin2,hn,mayWrite,AV.allPure,AV.isPure,paste]
     exact ih2'
    ·have hik:i=np:=by omega
     rw[hik,su_init]
     generalize List.replicate np true++List.replicate (n-np) false=s0 at *
     cases hgv:(surB s0 cs).2 with
     |none=>
      rw[hgv]at hcall hp
      have hp:surF (SS.drop (k+1)) (bs.drop (k+1))=surF SS bs:=hp
      have ih':=fun o b5=>ih (k+1,o,b5) ⟨by simp only;omega,hp⟩ (by simp only;omega)
      simp only at ih'
      simp only[cO,cE,cX]at hcall
      simp[hcall,hw,w2]
      exact ih' _ _
     |some a=>
      rw[hgv]at hcall hp
      have hp:some a=surF SS bs:=hp
      rw[<-hp]
      simp only[cO,cE,cX,fltV]at hcall ⊢
      simp[hcall,w2,paste]
   ·have hkl:k=bs.length:=by omega
    rw[hkl,List.drop_length,surF_end]at hp
    rw[<-hp]
    simp[hlt,fltV,cE,cX,paste]
end S9
