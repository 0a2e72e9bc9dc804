/- Part of a proof. -/
import Derived.Test.YtgblgbgjmgjfkaaGreatCode2
import Derived.KernelRfl
import Derived.Test.YtgblgbgjmgjfkaaGreatA6
import Derived.Test.YtgblgbgjmgjfkaaGreatUC
import Derived.Test.YtgblgbgjmgjfkaaGreatJ

set_option maxRecDepth 100000
set_option maxHeartbeats 4000000
namespace E14
open Ax Go Code14z
theorem known0:(orcL S).call 0 0 10 [] []=some (.bool true,[]):=by
 have h:says ((korc S 200).call 0 0 10 [] [])=true:=by kernel_rfl
 exact call_k (says_eq h)
end E14
namespace E14
open Ax Go Code14z IrV Mach U12
variable {x:XD}{cvl:Nat->AV}{c:CD}{i:ID}{f:Int}
theorem inV_of{vs:List T3}{n:Int}(h:ofT vs n≠T0):inV vs.length n:=by
 unfold ofT at h
 by_cases h0:0<=n
 ·rw[if_pos h0]at h
  by_cases h1:n.toNat<vs.length
  ·exact⟨h0,by omega⟩
  ·rw[List.getD_eq_getElem?_getD,List.getElem?_eq_none (by omega)]at h
   exact absurd rfl h
 ·rw[if_neg h0]at h;exact absurd rfl h
theorem inV_is{vs:List T3}{t:T3}{l:List Int}(h:isT vs t l=true):∀n∈l,inV vs.length n:=by
 unfold isT at h
 simp only[Bool.and_eq_true,List.all_eq_true,decide_eq_true_eq]at h
 exact fun n hn=>inV_of (by rw[h.1 n hn];exact h.2)
theorem inV_i1{vs:List T3}{t:T3}{a:Int}(h:isT vs t [a]=true):inV vs.length a:=inV_is h a (by simp)
theorem inV_ref{vs:List T3}{n:Int}(h:refT (ofT vs n)=true):inV vs.length n:=inV_of fun e=>by rw[e]at h;revert h;decide
theorem inV_d{vs:List T3}{n:Int}(h:0<(ofT vs n).d):inV vs.length n:=inV_of fun e=>by rw[e]at h;revert h;decide
theorem inV_b{vs:List T3}{n:Int}(h:(ofT vs n).b=3):inV vs.length n:=inV_of fun e=>by rw[e]at h;revert h;decide
theorem fld_in{rs:List RD}{vs:List T3}{a k v:Int}(h:fldT rs vs a k v=true):inV vs.length a/\inV vs.length v:=by
 unfold fldT at h
 simp only[Bool.and_eq_true,decide_eq_true_eq]at h
 refine⟨inV_b h.1.1,?_⟩
 have h2:=h.2
 split at h2
 ·split at h2
  ·exact inV_i1 h2
  ·cases h2
 ·cases h2
theorem arr_in{vs:List T3}{a v:Int}(h:arrT vs a v=true):inV vs.length a/\inV vs.length v:=by
 unfold arrT at h
 simp only[Bool.and_eq_true,decide_eq_true_eq]at h
 exact⟨inV_d h.1,inV_i1 h.2⟩
theorem sit_in{ss:List SD}{vs:List T3}{n a:Int}(h:sitT ss f vs n a=true):inV vs.length a/\0<=n/\n<(ss.length:Int):=by
 unfold sitT at h
 split at h
 ·rename_i s hs
  simp only[Bool.and_eq_true,decide_eq_true_eq]at h
  obtain⟨k,hk,hkl,_⟩:=getZ_some hs
  exact⟨inV_i1 h.2,by omega,by omega⟩
 ·cases h
theorem glo_in{gs vs:List T3}{n a:Int}(h:gloT gs vs n a=true):inV vs.length a/\0<=n/\n<(gs.length:Int):=by
 unfold gloT at h
 split at h
 ·rename_i s hs
  obtain⟨k,hk,hkl,_⟩:=getZ_some hs
  exact⟨inV_i1 h,by omega,by omega⟩
 ·cases h
theorem plc_in{n:Int}(h:plcT c n=true):0<=n/\n<((dNs c.ins).length:Int):=by
 unfold plcT at h
 simpa only [Bool.and_eq_true,decide_eq_true_eq] using h
theorem two_in{vs:List T3}(h:twoT vs i=true):inV vs.length i.a/\inV vs.length i.b/\inV vs.length i.c/\14<=i.n/\i.n<=24:=by
 unfold twoT at h
 split at h
 ·exact⟨inV_is h _ (by simp),inV_is h _ (by simp),inV_is h _ (by simp),by omega,by omega⟩
 split at h
 ·simp only[Bool.and_eq_true]at h
  exact⟨inV_i1 h.1,inV_is h.2 _ (by simp),inV_is h.2 _ (by simp),by omega,by omega⟩
 split at h
 ·simp only[Bool.and_eq_true]at h
  refine⟨inV_i1 h.1,inV_of ?_,inV_i1 h.2,by omega,by omega⟩
  have h2:=h.2
  unfold isT at h2
  simp only[Bool.and_eq_true,decide_eq_true_eq]at h2
  exact h2.2
 split at h
 ·exact⟨inV_is h _ (by simp),inV_is h _ (by simp),inV_is h _ (by simp),by omega,by omega⟩
 ·cases h
theorem is_ne{vs:List T3}{t:T3}{l:List Int}(h:isT vs t l=true):t≠T0:=by
 unfold isT at h
 simp only[Bool.and_eq_true,decide_eq_true_eq]at h
 exact h.2
theorem bare_op(h:bareT i=true):1<=i.op/\i.op<=20:=by
 unfold bareT at h
 by_cases q:1<=i.op/\i.op<=20
 ·exact q
 ·rw[if_neg (by omega),if_neg (by omega),if_neg (by omega),if_neg (by omega),if_neg (by omega),if_neg (by omega),if_neg (by omega),if_neg (by omega),if_neg (by omega)]at h
  cases h
theorem cal_in(h:calT (dCs x.codes) (dTs c.vars) i=true):(i.a = -1\/inV (dTs c.vars).length i.a)/\0<=i.c/\i.c<((dCs x.codes).length:Int)/\(dI i.args).length<=nvOf (mpOf x cvl) i.c.toNat/\∀n∈dI i.args,inV (dTs c.vars).length n:=by
 unfold calT at h
 split at h
 ·cases h
 ·rename_i g hg
  obtain⟨k,hk,hkl,hq⟩:=getZ_some hg
  unfold calG at h
  simp only[Bool.and_eq_true,decide_eq_true_eq,Bool.or_eq_true,List.all_eq_true]at h
  obtain⟨⟨⟨h1,h2⟩,h3⟩,h4⟩:=h
  have hnv:nvOf (mpOf x cvl) i.c.toNat=(dTs g.vars).length:=by
   unfold nvOf mpOf
   simp only
   rw[hk,Int.toNat_natCast,List.getD_eq_getElem?_getD,List.getElem?_eq_getElem hkl]
   simp[hq]
  refine⟨?_,by omega,by omega,by rw[hnv];omega,fun n hn=>?_⟩
  ·rcases h4 with h4|h4
   ·exact .inl h4
   ·exact .inr (inV_i1 h4.2)
  ·obtain⟨j,hj,rfl⟩:=List.mem_iff_getElem.1 hn
   have hj2:j<(dTs g.vars).length:=by omega
   exact inV_i1 (h3 ((dI i.args)[j],(dTs g.vars)[j]) (List.mem_iff_getElem.2 ⟨j,by simp;omega,by simp⟩))
theorem fit_of(hb:bareT i=true)(hf:fitsT x f c i=true):Fit (mpOf x cvl) (dTs c.vars).length (dNs c.ins).length i:=by
 have hop:=bare_op hb
 have hcl:(mpOf x cvl).cells.length=(dSs x.sites).length:=by simp[mpOf]
 have hco:(mpOf x cvl).codes.length=(dCs x.codes).length:=rfl
 have hng:(mpOf x cvl).ng=(dTs x.globals).length:=rfl
 unfold fitsT at hf
 by_cases q1:i.op=1
 ·rw[if_pos q1]at hf
  have ha:inV (dTs c.vars).length i.a:=by
   simp only[Bool.or_eq_true,Bool.and_eq_true]at hf
   rcases hf with hf|hf
   ·exact inV_i1 hf
   ·exact inV_i1 hf.1
  exact⟨hop,fun _ _ _=>ha,fun h=>absurd h (by omega),fun h=>absurd h (by omega),fun h=>absurd h (by omega),fun h=>absurd h (by omega),fun h=>absurd h (by omega),fun h=>absurd h (by omega),fun h=>absurd h (by omega),fun h=>absurd h (by omega),fun h=>absurd h (by omega),fun h=>absurd h (by omega)⟩
 rw[if_neg q1]at hf
 by_cases q2:i.op=2
 ·rw[if_pos q2]at hf
  exact⟨hop,fun _ _ _=>inV_ref hf,fun h=>absurd h (by omega),fun h=>absurd h (by omega),fun h=>absurd h (by omega),fun h=>absurd h (by omega),fun h=>absurd h (by omega),fun h=>absurd h (by omega),fun h=>absurd h (by omega),fun h=>absurd h (by omega),fun h=>absurd h (by omega),fun h=>absurd h (by omega)⟩
 rw[if_neg q2]at hf
 by_cases q3:i.op=3
 ·rw[if_pos q3]at hf
  exact⟨hop,fun _ _ _=>inV_of (is_ne hf),fun h=>absurd h (by omega),fun _=>inV_i1 hf,fun h=>absurd h (by omega),fun h=>absurd h (by omega),fun h=>absurd h (by omega),fun h=>absurd h (by omega),fun h=>absurd h (by omega),fun h=>absurd h (by omega),fun h=>absurd h (by omega),fun h=>absurd h (by omega)⟩
 rw[if_neg q3]at hf
 by_cases q4:i.op=4
 ·rw[if_pos q4]at hf
  obtain⟨a1,a2,a3,a4,a5⟩:=two_in hf
  exact⟨hop,fun _ _ _=>a1,fun h=>absurd h (by omega),fun _=>a2,fun _=>a3,fun h=>absurd h (by omega),fun h=>absurd h (by omega),fun h=>absurd h (by omega),fun h=>absurd h (by omega),fun h=>absurd h (by omega),fun _=>⟨a4,a5⟩,fun h=>absurd h (by omega)⟩
 rw[if_neg q4]at hf
 by_cases q5:i.op=5
 ·rw[if_pos q5]at hf
  have ha:inV (dTs c.vars).length i.a/\inV (dTs c.vars).length i.b/\(i.n=12\/i.n=13):=by
   simp only[Bool.or_eq_true,Bool.and_eq_true,decide_eq_true_eq]at hf
   rcases hf with hf|hf
   ·exact⟨inV_is hf.2 _ (by simp),inV_is hf.2 _ (by simp),.inl hf.1⟩
   ·exact⟨inV_is hf.2 _ (by simp),inV_is hf.2 _ (by simp),.inr hf.1⟩
  exact⟨hop,fun _ _ _=>ha.1,fun h=>absurd h (by omega),fun _=>ha.2.1,fun h=>absurd h (by omega),fun h=>absurd h (by omega),fun h=>absurd h (by omega),fun h=>absurd h (by omega),fun h=>absurd h (by omega),fun h=>absurd h (by omega),fun h=>absurd h (by omega),fun _=>ha.2.2⟩
 rw[if_neg q5]at hf
 by_cases q6:i.op=6
 ·rw[if_pos q6]at hf
  have ha:=fld_in hf
  exact⟨hop,fun _ _ _=>ha.2,fun h=>absurd h (by omega),fun _=>ha.1,fun h=>absurd h (by omega),fun h=>absurd h (by omega),fun h=>absurd h (by omega),fun h=>absurd h (by omega),fun h=>absurd h (by omega),fun h=>absurd h (by omega),fun h=>absurd h (by omega),fun h=>absurd h (by omega)⟩
 rw[if_neg q6]at hf
 by_cases q7:i.op=7
 ·rw[if_pos q7]at hf
  have ha:=fld_in hf
  exact⟨hop,fun _ _ _=>ha.1,fun h=>absurd h (by omega),fun _=>ha.2,fun h=>absurd h (by omega),fun h=>absurd h (by omega),fun h=>absurd h (by omega),fun h=>absurd h (by omega),fun h=>absurd h (by omega),fun h=>absurd h (by omega),fun h=>absurd h (by omega),fun h=>absurd h (by omega)⟩
 rw[if_neg q7]at hf
 by_cases q8:i.op=8
 ·rw[if_pos q8]at hf
  simp only[Bool.and_eq_true]at hf
  have ha:=arr_in hf.1
  exact⟨hop,fun _ _ _=>ha.2,fun h=>absurd h (by omega),fun _=>ha.1,fun _=>inV_i1 hf.2,fun h=>absurd h (by omega),fun h=>absurd h (by omega),fun h=>absurd h (by omega),fun h=>absurd h (by omega),fun h=>absurd h (by omega),fun h=>absurd h (by omega),fun h=>absurd h (by omega)⟩
 rw[if_neg q8]at hf
 by_cases q9:i.op=9
 ·rw[if_pos q9]at hf
  simp only[Bool.and_eq_true]at hf
  have ha:=arr_in hf.1
  exact⟨hop,fun _ _ _=>ha.1,fun h=>absurd h (by omega),fun _=>inV_i1 hf.2,fun _=>ha.2,fun h=>absurd h (by omega),fun h=>absurd h (by omega),fun h=>absurd h (by omega),fun h=>absurd h (by omega),fun h=>absurd h (by omega),fun h=>absurd h (by omega),fun h=>absurd h (by omega)⟩
 rw[if_neg q9]at hf
 by_cases q10:i.op=10
 ·rw[if_pos q10]at hf
  simp only[Bool.and_eq_true,decide_eq_true_eq]at hf
  exact⟨hop,fun _ _ _=>inV_i1 hf.1,fun h=>absurd h (by omega),fun _=>inV_d hf.2,fun h=>absurd h (by omega),fun h=>absurd h (by omega),fun h=>absurd h (by omega),fun h=>absurd h (by omega),fun h=>absurd h (by omega),fun h=>absurd h (by omega),fun h=>absurd h (by omega),fun h=>absurd h (by omega)⟩
 rw[if_neg q10]at hf
 by_cases q11:i.op=11
 ·rw[if_pos q11]at hf
  simp only[Bool.and_eq_true]at hf
  have ha:=sit_in hf.2
  exact⟨hop,fun _ _ _=>ha.1,fun h=>absurd h (by omega),fun h=>absurd h (by omega),fun h=>absurd h (by omega),fun _=>by rw[hcl];exact ha.2,fun h=>absurd h (by omega),fun h=>absurd h (by omega),fun h=>absurd h (by omega),fun h=>absurd h (by omega),fun h=>absurd h (by omega),fun h=>absurd h (by omega)⟩
 rw[if_neg q11]at hf
 by_cases q12:i.op=12
 ·rw[if_pos q12]at hf
  simp only[Bool.and_eq_true]at hf
  have ha:=sit_in hf.1.2
  exact⟨hop,fun _ _ _=>ha.1,fun h=>absurd h (by omega),fun _=>inV_i1 hf.2,fun h=>absurd h (by omega),fun h=>absurd h (by omega),fun h=>absurd h (by omega),fun h=>absurd h (by omega),fun h=>absurd h (by omega),fun h=>absurd h (by omega),fun h=>absurd h (by omega),fun h=>absurd h (by omega)⟩
 rw[if_neg q12]at hf
 unfold goesT at hf
 by_cases q13:i.op=13
 ·rw[if_pos q13]at hf
  have ha:=cal_in (cvl:=cvl) hf
  exact⟨hop,fun h=>absurd q13 h,fun _=>ha.1,fun h=>absurd h (by omega),fun h=>absurd h (by omega),fun h=>absurd h (by omega),fun h=>absurd h (by omega),fun h=>absurd h (by omega),fun h=>absurd h (by omega),fun _=>by rw[hco];exact ha.2,fun h=>absurd h (by omega),fun h=>absurd h (by omega)⟩
 rw[if_neg q13]at hf
 by_cases q14:i.op=14\/i.op=15
 ·rw[if_pos q14]at hf
  exact⟨hop,fun _ _ _=>inV_i1 hf,fun h=>absurd h (by omega),fun h=>absurd h (by omega),fun h=>absurd h (by omega),fun h=>absurd h (by omega),fun h=>absurd h (by omega),fun h=>absurd h (by omega),fun h=>absurd h (by omega),fun h=>absurd h (by omega),fun h=>absurd h (by omega),fun h=>absurd h (by omega)⟩
 rw[if_neg q14]at hf
 by_cases q16:i.op=16
 ·rw[if_pos q16]at hf
  have ha:=plc_in hf
  exact⟨hop,fun _ h=>absurd q16 h,fun h=>absurd h (by omega),fun h=>absurd h (by omega),fun h=>absurd h (by omega),fun h=>absurd h (by omega),fun h=>absurd h (by omega),fun _=>ha,fun h=>absurd h (by omega),fun h=>absurd h (by omega),fun h=>absurd h (by omega),fun h=>absurd h (by omega)⟩
 rw[if_neg q16]at hf
 by_cases q17:i.op=17
 ·rw[if_pos q17]at hf
  simp only[Bool.and_eq_true]at hf
  exact⟨hop,fun _ _ _=>inV_i1 hf.1.1,fun h=>absurd h (by omega),fun h=>absurd h (by omega),fun h=>absurd h (by omega),fun h=>absurd h (by omega),fun h=>absurd h (by omega),fun _=>plc_in hf.1.2,fun _=>plc_in hf.2,fun h=>absurd h (by omega),fun h=>absurd h (by omega),fun h=>absurd h (by omega)⟩
 rw[if_neg q17]at hf
 by_cases q18:i.op=18
 ·rw[if_pos q18]at hf
  have ha:i.a = -1\/inV (dTs c.vars).length i.a:=by
   split at hf
   ·exact .inr (inV_i1 hf)
   ·exact .inl (by simpa using hf)
  exact⟨hop,fun _ _ h=>absurd q18 h,fun _=>ha,fun h=>absurd h (by omega),fun h=>absurd h (by omega),fun h=>absurd h (by omega),fun h=>absurd h (by omega),fun h=>absurd h (by omega),fun h=>absurd h (by omega),fun h=>absurd h (by omega),fun h=>absurd h (by omega),fun h=>absurd h (by omega)⟩
 rw[if_neg q18]at hf
 have ha:=glo_in hf
 exact⟨hop,fun _ _ _=>ha.1,fun h=>absurd h (by omega),fun h=>absurd h (by omega),fun h=>absurd h (by omega),fun h=>absurd h (by omega),fun _=>by rw[hng];exact ha.2,fun h=>absurd h (by omega),fun h=>absurd h (by omega),fun h=>absurd h (by omega),fun h=>absurd h (by omega),fun h=>absurd h (by omega)⟩
theorem codesB_at:∀{l:List CD}{f n:Int},codesB x l f n=true->∀(k:Nat)(h:k<l.length),codeT x (f+k) l[k]=true
 |[],_,_,_,k,h=>by simp at h
 |c::l,f,n,hb,k,h=>by
  unfold codesB at hb
  simp only[Bool.and_eq_true]at hb
  cases k with
  |zero=>simpa using hb.1.2
  |succ k=>
   have:=codesB_at hb.2 k (by simpa using h)
   rw[show f+1+(k:Int)=f+((k+1:Nat):Int) by omega]at this
   simpa using this
theorem x_ok(hr:rightT x=true):XOk (mpOf x cvl):=by
 unfold rightT at hr
 simp only[Bool.and_eq_true]at hr
 have hc:=fun k h=>codesB_at hr.2 k h
 have hk:∀k (h:k<(dCs x.codes).length),(mpOf x cvl).codes.getD k C0=(dCs x.codes)[k]:=fun k h=>by
  show (dCs x.codes).getD k C0=_
  rw[List.getD_eq_getElem?_getD,List.getElem?_eq_getElem h];rfl
 have hct:∀k (h:k<(dCs x.codes).length),(∀i∈dNs (dCs x.codes)[k].ins,stepT x k i=true)/\lastT (dNs (dCs x.codes)[k].ins)=true:=fun k h=>by
  have:=hc k h
  unfold codeT at this
  simp only[Bool.and_eq_true,List.all_eq_true]at this
  rw[show (0:Int)+(k:Int)=k by omega]at this
  exact⟨this.1.2,this.2⟩
 have hne:∀k (h:k<(dCs x.codes).length),0<(dNs (dCs x.codes)[k].ins).length:=fun k h=>by
  rcases Nat.eq_zero_or_pos (dNs (dCs x.codes)[k].ins).length with h0|h0
  ·have:=(hct k h).2
   rw[List.eq_nil_of_length_eq_zero h0]at this
   exact absurd this (by decide)
  ·exact h0
 refine⟨fun k h j hj=>?_,fun k h=>?_⟩
 ·have h':k<(dCs x.codes).length:=h
  have hkk:=hk k h'
  unfold nvOf niOf
  simp only[hkk]at hj ⊢
  obtain⟨h1,h2⟩:=hct k h'
  have hs:=h1 _ (List.getElem_mem hj)
  unfold U12.stepT at hs
  have hg:getZ (dCs x.codes) (k:Int)=some (dCs x.codes)[k]:=by
   unfold getZ
   rw[if_pos (by omega),Int.toNat_natCast,List.getElem?_eq_getElem h']
  rw[hg]at hs
  simp only[Bool.and_eq_true]at hs
  refine⟨fit_of hs.1 hs.2,fun n1 n2 n3=>?_⟩
  obtain⟨m,hm⟩:∃m,(dNs (dCs x.codes)[k].ins).length=m+1:=⟨_,(Nat.succ_pred_eq_of_pos (hne k h')).symm⟩
  rw[lastT_at hm]at h2
  by_cases e:j=m
  ·subst e
   simp only[n1,n2,n3,decide_false,Bool.or_self]at h2
   cases h2
  ·omega
 ·have h':k<(dCs x.codes).length:=h
  unfold niOf
  rw[hk k h']
  exact hne k h'
end E14
namespace E14
open Ax Go Code14z IrV Mach U12
variable {x:XD}
def cvT(x:XD)(k:Nat):AV:=cellsT x k
def zeroM:Ms:=⟨[],[],[],[],0,0,[],0⟩
def runX(x:XD)(l:List Int)(n:Nat):Ms:=if rightT x=true then runM (mpOf x (cvT x)) n (m0 (mpOf x (cvT x)) x.main.toNat l) else zeroM
theorem main_in(hr:rightT x=true):∃k:Nat,x.main=k/\k<(dCs x.codes).length:=by
 simp only[rightT,Bool.and_eq_true]at hr
 have h:=hr.1.1.1.1.2
 split at h
 ·cases h
 ·rename_i m hg
  obtain⟨k,hk,hkl,_⟩:=getZ_some hg
  exact⟨k,hk,hkl⟩
theorem runX_ok(hx:x.ok)(hg:greatT x=false){inp:AV}(hi:isI inp=true)(hno:notOwn inp=true)(n:Int)(hn:n<=1000000)(wl li:Nat)(st:Store) :
  (orcL S).call wl li 8 [xA x,inp,.int .i64 n] st=some (behV (runX x (dI inp) n.toNat),st):=by
 obtain⟨f1,f2,f3,f4,f5⟩:=great_few hg
 have hR:=fun wl li st=>right_ok wl li st hx (fun g h=>by have:=f4 g h;omega) (fun g h=>by have:=f5 g h;omega)
 have hp:(xA x).isPure=true:=hx.pure
 unfold runX
 cases hr:rightT x with
 |false=>
  rw[if_neg (by simp)]
  rw[hr]at hR
  exact run_no hx hp hi hno n hR wl li st
 |true=>
  rw[if_pos rfl]
  rw[hr]at hR
  obtain⟨k,hk,hkl⟩:=main_in hr
  rw[hk,Int.toNat_natCast]
  exact run_ok hx hp hi hno n hR (cvl:=cvT x) (fun wl li j st _=>cells_ok hx (fun g h=>by have:=f4 g h;omega) (fun g h=>by have:=f5 g h;omega) wl li j st) (fun j=>by
   obtain⟨l,h,_⟩:=cellsT_l x j
   exact isSl_sz h) (by omega) hk hkl (by have:=f4 _ (List.getElem_mem hkl);omega) (by omega) (x_ok hr) (fun c h=>by have:=f4 c h;omega) (fun c h=>by have:=f5 c h;omega) hn wl li st
theorem runR_ok{X:MP}(hX:XOk X):∀(n:Nat)(m:Ms),MsOk X m->MsOk X (runR X n m)
 |0,_,h=>h
 |n+1,m,h=>by
  unfold runR
  by_cases he:m.e=0
  ·rw[if_pos he];exact runR_ok hX n _ (step_ok hX h he)
  ·rw[if_neg he];exact h
theorem few_out(l:List Int)(n:Nat):(runX x l n).out.length<=n:=by
 unfold runX
 by_cases hr:rightT x=true
 ·simp only[if_pos hr]
  obtain⟨k,hk,hkl⟩:=main_in hr
  have hX:=x_ok (cvl:=cvT x) hr
  rw[hk,Int.toNat_natCast]
  have h1:=(runR_ok hX n _ (m0_ok hX hkl l)).o
  have h2:=(runR_on (X:=mpOf x (cvT x)) n (m0 (mpOf x (cvT x)) k l) rfl).2.2.1
  have h3:(m0 (mpOf x (cvT x)) k l).steps=0:=rfl
  have hm:∀q:Ms,(Mach.mark q).out=q.out:=fun q=>by unfold Mach.mark;split<;>rfl
  rw[Mach.run_mark,hm]
  omega
 ·simp only[if_neg hr];simp[zeroM]
end E14
