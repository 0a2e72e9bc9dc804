/- Part of a proof. -/
import Derived.Test.YtegibojgmandmaaGreatX
import Derived.Test.YtegibojgmandmaaGreatP

set_option maxRecDepth 100000
set_option maxHeartbeats 8000000
namespace S9
open Ax Go Code9z V7 Par Chk K9 N7 U7
def bareN (x:FN):FN:=⟨x.name,x.params,x.has,x.on,x.od,.nilSl,x.at_⟩
def bare (f:Fc):Fc:={ f with body:=[] }
theorem firstB_map {α β:Type}{bad:List α->α->Option Int}{bad2:List β->β->Option Int}{f:α->β}(h:∀b x,bad2 (b.map f) (f x)=bad b x)(l:List α):∀k,firstB bad2 (l.map f) k=firstB bad l k
 |0=>rfl
 |k+1=>by
  unfold firstB
  rw[firstB_map h l k,List.getElem?_map]
  cases e:l[k]? with
  |none=>rfl
  |some x=>simp only[Option.map_some,<-List.map_take,h]
theorem badS_bare (rs:List (List UInt8))(b:List FN)(x:FN):badS rs (b.map bareN) (bareN x)=badS rs b x:=by
 unfold badS badD badT
 rw[List.any_map]
 rfl
theorem mainI_bare (l:List FN):mainI (l.map bareN)=mainI l:=by
 unfold mainI
 rw[List.findIdx?_map]
 rfl
structure Alike (p q:Pg):Prop where
 recs:q.recs=p.recs
 globals:q.globals=p.globals
 funcs:q.funcs.map bare=p.funcs.map bare
theorem bare_fn (l:List Fc):(l.map fnOf).map bareN=(l.map bare).map (fun f=>bareN (fnOf f)):=by
 rw[List.map_map,List.map_map]
 rfl
theorem Alike.fn {p q:Pg}(h:Alike p q):(q.funcs.map fnOf).map bareN=(p.funcs.map fnOf).map bareN:=by rw[bare_fn,bare_fn,h.funcs]
theorem Alike.len {p q:Pg}(h:Alike p q):q.funcs.length=p.funcs.length:=by simpa using congrArg List.length h.funcs
theorem fault_same {p q:Pg}(h:Alike p q):faultH (gdOf q)=faultH (gdOf p):=by
 have hs:=h.fn
 have hl:=h.len
 have e1:mainI (dFNs (gdOf q).funcs)=mainI (dFNs (gdOf p).funcs):=by
  rw[dFNs_gd,dFNs_gd,<-mainI_bare,<-mainI_bare (p.funcs.map fnOf),hs]
 have e2:∀rs,firstB (badS rs) (dFNs (gdOf q).funcs) (dFNs (gdOf q).funcs).length=firstB (badS rs) (dFNs (gdOf p).funcs) (dFNs (gdOf p).funcs).length:=fun rs=>by
  rw[dFNs_gd,dFNs_gd,<-firstB_map (badS_bare rs),<-firstB_map (badS_bare rs) (p.funcs.map fnOf),List.length_map,List.length_map,hs,hl]
 have a1:dCRs (gdOf q).recs=dCRs (gdOf p).recs:=by rw[dCRs_gd,dCRs_gd,h.recs]
 have a2:dPs (gdOf q).globals=dPs (gdOf p).globals:=by rw[dPs_gd,dPs_gd,h.globals]
 have e3:fault3 (gdOf q)=fault3 (gdOf p):=by
  unfold fault3
  rw[a1,a2,e2]
 unfold faultH
 rw[e1,e3]
theorem hd_same {p q:Pg}(h:Alike p q):hdOf q=hdOf p:=by
 have e:namesOf q=namesOf p:=by unfold namesOf;rw[h.recs]
 have e2:∀(rs:List (List UInt8)) (l:List Fc),l.map (sgOf rs)=(l.map bare).map (sgOf rs):=fun rs l=>by rw[List.map_map];rfl
 unfold hdOf
 rw[e,h.recs,h.globals,e2,h.funcs,<-e2]
def moreP (p:Pg)(i:Nat)(f:Fc)(a:List UInt8):Pg:={ p with funcs:=p.funcs.set i (moreF f a) }
theorem alike_more {p:Pg}{i:Nat}{f:Fc}(hi:p.funcs[i]?=some f)(a:List UInt8):Alike p (moreP p i f a):=by
 refine⟨rfl,rfl,?_⟩
 obtain⟨h1,h2⟩:=List.getElem?_eq_some_iff.1 hi
 show (p.funcs.set i (moreF f a)).map bare=_
 rw[List.map_set]
 have:bare (moreF f a)=(p.funcs.map bare)[i]'(by simpa using h1):=by rw[List.getElem_map,h2];rfl
 rw[this,List.set_getElem_self]
theorem typeT_ne {rs:List (List UInt8)}{s:List UInt8}{d:Int}(h:(typeT rs s d).2=true):(typeT rs s d).1≠T0:=by
 unfold typeT at h ⊢
 split
 ·rename_i c;simp[c]at h
 ·rename_i c
  rw[if_neg c]at h
  split
  ·intro e;cases e
  ·rename_i c2
   rw[if_neg c2]at h
   split
   ·intro e;cases e
   ·rename_i c3
    rw[if_neg c3]at h
    split
    ·rename_i c4;simp[c4]at h
    ·intro e;cases e
theorem par_ne {p:Pg}(h:faultH (gdOf p)=none){i:Nat}{f:Fc}(hi:p.funcs[i]?=some f):∀v∈(sgOf (namesOf p) f).ps,v.ty≠T0:=by
 obtain⟨h1,h2⟩:=List.getElem?_eq_some_iff.1 hi
 have h3:fault3 (gdOf p)=none:=by
  unfold faultH at h
  split at h
  ·exact(orF_nn h).1
  ·exact h
 have h4:=(orF_nn h3).2
 rw[recN_gd,dFNs_gd]at h4
 have h5:=firstB_all h4 i (by simpa using h1) (by simpa using h1)
 have h6:=(orF_nn (orF_nn h5).1).2
 simp only[List.getElem_map,h2]at h6
 rw[show (fnOf f).params=lstV 4 (f.params.map PD.cells) from rfl,dPs_lst]at h6
 intro v hv
 obtain⟨q,hq,rfl⟩:=List.mem_map.1 hv
 obtain⟨j,hj,rfl⟩:=List.getElem_of_mem hq
 have h7:=firstB_all h6 j hj hj
 refine typeT_ne ?_
 unfold badP at h7
 split at h7
 ·cases h7
 ·rename_i c
  simp only[Bool.or_eq_true,Bool.not_eq_true',not_or,Bool.not_eq_false]at c
  exact c.2
theorem surO_more {p:Pg}{i:Nat}{f:Fc}{v:Vd}{ps:List Vd}{bs:List Bd}(hf:faultH (gdOf p)=none)(hc:ckF (hdOf p) (hdOf p).sigs p.funcs=.ok bs)(hi:p.funcs[i]?=some f)(hv:(sgOf (namesOf p) f).ps=v::ps) :
  sureO (moreP p i f v.nm)=sureO p:=by
 have ha:=alike_more hi v.nm
 have hne:=par_ne hf hi v (by rw[hv];exact List.mem_cons_self)
 have hs:(hdOf p).sigs[i]?=some (sgOf (namesOf p) f):=by
  show (p.funcs.map (sgOf (namesOf p)))[i]?=_
  rw[List.getElem?_map,hi];rfl
 obtain⟨b,e1,e2⟩:=ckF_more hc hs hi hv hne
 unfold sureO
 rw[fault_same ha,hd_same ha,hf]
 simp only[hc]
 rw[show (moreP p i f v.nm).funcs=p.funcs.set i (moreF f v.nm) from rfl,e2]
 exact surF_more hs e1 hv
theorem fine_more {p:Pg}{i:Nat}{f:Fc}(h:Fine p)(hb:∀f∈p.funcs,Sm.szs f.body<=6001)(hi:p.funcs[i]?=some f)(a:List UInt8):Fine (moreP p i f a):=by
 have hm:f∈p.funcs:=List.mem_of_getElem? hi
 have hk:∀g∈(moreP p i f a).funcs,g∈p.funcs\/g=moreF f a:=fun g hg=>List.mem_or_eq_of_mem_set hg
 refine⟨⟨h.inn.r,h.inn.g,⟨by simpa [moreP] using h.inn.f.1,fun g hg=>?_⟩⟩,fun g hg=>?_⟩
 ·rcases hk g hg with h1|rfl
  ·exact h.inn.f.2 g h1
  ·have:=h.inn.f.2 f hm
   exact⟨this.a,this.len,this.f,this.od⟩
 ·rcases hk g hg with h1|rfl
  ·exact h.small g h1
  ·have:=hb f hm
   show Sm.szs (setS a::f.body)<=_
   have e:Sm.szs (setS a::f.body)=Sm.sz (setS a)+Sm.szs f.body:=by simp[Sm.szs]
   have e2:Sm.sz (setS a)=2:=rfl
   omega
end S9
namespace S9
open Ax Go Code9z V7 Par Chk K9 N7 U7
theorem low_bits (n:Int):∃q:Nat,((n % 2 ^ IntKind.i64.bits).toNat &&& 1023 % 2 ^ IntKind.i64.bits)=q/\q<=1023:=by
 refine⟨_,rfl,?_⟩
 have:1023 % 2 ^ IntKind.i64.bits=1023:=by decide
 rw[this]
 exact Nat.and_le_right
theorem freezeC_sl {wl:Nat}{v:AV}{st:Store}(h:isSl v=true)(hv:v.view=v):freezeC wl v st=some (v,st):=by
 cases v<;>simp[isSl]at h<;>simp[freezeC,AV.isPure,AV.isCell,AV.view]at *
theorem freezeC_int (wl:Nat)(k:IntKind)(n:Int)(st:Store):freezeC wl (.int k n) st=some (.int k n,st):=rfl
theorem freezeC_bool (wl:Nat)(b:Bool)(st:Store):freezeC wl (.bool b) st=some (.bool b,st):=rfl
theorem freezeC_str (wl:Nat)(b:List UInt8)(st:Store):freezeC wl (.str b) st=some (.str b,st):=rfl
theorem freezeC_mu {wl id ver sz:Nat}{rows:List (List AV)}{st:Store}(h:st[id]?=some (.rows ver sz rows))(hp:rows.all AV.allPure=true)(he:rows.isEmpty=false)(hw:wl<=id)(hv:rows.map AV.viewL=rows) :
  freezeC wl (.mu id ver) st=some (.lst sz rows,st.set id (.rows (ver+1) sz [])):=by
 simp only[freezeC,h,hp,he,hv,decide_eq_true hw,Bool.not_false,Bool.and_self,if_true,decide_true]
theorem freezeL_fc (wl:Nat)(f:Fc)(st:Store):freezeL wl f.row st=some (f.row,st):=by
 have h1:=freezeC_sl (wl:=wl) (st:=st) (v:=lstV 4 (f.params.map PD.cells)) isSl_lstV view_lstV
 have h2:=freezeC_sl (wl:=wl) (st:=st) (v:=ssV f.body) isSl_ssV view_ssV
 simp only[Fc.row,freezeL,h1,h2,freezeC_str,freezeC_int,freezeC_bool]
theorem freezeLL_set {wl:Nat}{r r':List AV}{st st':Store}(h:freezeL wl r st=some (r',st')):∀{l:List (List AV)}{k:Nat},(∀r∈l,∀st,freezeL wl r st=some (r,st))->k<l.length->freezeLL wl (l.set k r) st=some (l.set k r',st')
 |a::l,0,hl,_=>by
  have h1:∀(l:List (List AV)) st,(∀r∈l,∀st,freezeL wl r st=some (r,st))->freezeLL wl l st=some (l,st):=by
   intro l
   induction l with
   |nil=>exact fun _ _=>rfl
   |cons b l ih=>
    intro st hl
    simp only[freezeLL,hl b (List.mem_cons_self ..) st,ih st fun r hr=>hl r (List.mem_cons_of_mem _ hr)]
  simp only[List.set_cons_zero,freezeLL,h,h1 l st' fun r hr=>hl r (List.mem_cons_of_mem _ hr)]
 |a::l,k+1,hl,hk=>by
  simp only[List.set_cons_succ,freezeLL,hl a (List.mem_cons_self ..) st,freezeLL_set h (fun r hr=>hl r (List.mem_cons_of_mem _ hr)) (by simpa using hk)]
theorem smrows_pure (l:List Sm):(Sm.rows l).all AV.allPure=true:=by
 rw[Smrows_map,List.all_map,List.all_eq_true]
 intro s _
 obtain⟨k,nm,on,od,es,bd,el,a,ref⟩:=s
 simp[Function.comp,Sm.row,AV.allPure,AV.isPure]
theorem smrows_view (l:List Sm):(Sm.rows l).map AV.viewL=Sm.rows l:=by
 rw[Smrows_map,List.map_map]
 refine List.map_congr_left fun s _=>?_
 obtain⟨k,nm,on,od,es,bd,el,a,ref⟩:=s
 simp[Function.comp,Sm.row,AV.viewL,AV.view]
theorem frz_more {p:Pg}{i:Nat}{f:Fc}{a:List UInt8}(hi:i<p.funcs.length) :
  freezeV 0 (.mu 0 0) [.rows 0 7 ((p.funcs.map Fc.row).set i [.str f.name,lstV 4 (f.params.map PD.cells),.bool f.has,.str f.on,.int .i64 f.od,.mu 1 1,.int .i64 f.a]),.rows 1 9 (Sm.rows (setS a::f.body))] =
   some (lstV 7 ((moreP p i f a).funcs.map Fc.row),[.rows 1 7 [],.rows 2 9 []]):=by
 obtain⟨R,hR⟩:∃R:List AV,R=[.str f.name,lstV 4 (f.params.map PD.cells),.bool f.has,.str f.on,.int .i64 f.od,.mu 1 1,.int .i64 f.a]:=⟨_,rfl⟩
 rw[<-hR]
 have hne:((p.funcs.map Fc.row).set i R).isEmpty=false:=by
  cases e:p.funcs with
  |nil=>rw[e]at hi;simp at hi
  |cons a l=>cases i<;>rfl
 have h1:=freezeC_sl (wl:=0) (st:=[.rows 1 7 [],.rows 1 9 (Sm.rows (setS a::f.body))]) (v:=lstV 4 (f.params.map PD.cells)) isSl_lstV view_lstV
 have h5:=freezeC_mu (wl:=0) (id:=1) (ver:=1) (sz:=9) (rows:=Sm.rows (setS a::f.body)) (st:=[.rows 1 7 [],.rows 1 9 (Sm.rows (setS a::f.body))]) rfl (smrows_pure _) rfl (Nat.zero_le _) (smrows_view _)
 have hfl:freezeL 0 R [.rows 1 7 [],.rows 1 9 (Sm.rows (setS a::f.body))]=some ((moreF f a).row,[.rows 1 7 [],.rows 2 9 []]):=by
  rw[hR]
  simp only[freezeL,h1,freezeC_str,freezeC_int,freezeC_bool,h5]
  rfl
 have hst:∀r∈p.funcs.map Fc.row,∀st,freezeL 0 r st=some (r,st):=by
  intro r hr st
  obtain⟨g,_,rfl⟩:=List.mem_map.1 hr
  exact freezeL_fc 0 g st
 have:=freezeLL_set hfl hst (k:=i) (by simpa using hi)
 rw[<-List.map_set]at this
 have hl:lstV 7 ((moreP p i f a).funcs.map Fc.row)=.lst 7 ((p.funcs.set i (moreF f a)).map Fc.row):=by
  show lstV 7 ((p.funcs.set i (moreF f a)).map Fc.row)=_
  cases e:(p.funcs.set i (moreF f a)).map Fc.row with
  |nil=>simp at e;rw[e]at hi;simp at hi
  |cons b l=>rfl
 rw[hl]
 simp[freezeV,hne,this]
mutual
theorem same_rfl:∀v:AV,v.same v=true
 |.agg cs=>by simp only[AV.same];exact sameL_rfl cs
 |.tup cs=>by simp only[AV.same];exact sameL_rfl cs
 |.lst s r=>by simp[AV.same,sameLL_rfl r]
 |.own s r=>by simp[AV.same,sameLL_rfl r]
 |.pel s r i k=>by simp[AV.same,sameLL_rfl r]
 |.fn f a b=>by simp[AV.same,sameL_rfl a,sameL_rfl b]
 |.undef|.gone|.bool _|.int _ _|.str _|.nilPtr|.nilSl|.nilMap|.nilFn|.nilIf|.emp|.mu _ _|.ptr _ _ _ _|.map _=>by simp[AV.same]
theorem sameL_rfl:∀l:List AV,AV.sameL l l=true
 |[]=>by simp[AV.sameL]
 |a::l=>by simp[AV.sameL,same_rfl a,sameL_rfl l]
theorem sameLL_rfl:∀l:List (List AV),AV.sameLL l l=true
 |[]=>by simp[AV.sameLL]
 |a::l=>by simp[AV.sameLL,sameL_rfl a,sameLL_rfl l]
end
theorem a_litM9 {nm:List UInt8}{o:AObj}{bx:Boxes}:act0 0 0 (.litM 9 1 [.int .i64 0,.str [],.str [],.int .i64 0,.nilSl,.nilSl,.nilSl,.int .i64 0,.int .i64 0] [0]) [.val (.agg [.int .i64 3,.str nm,.str [],.int .i64 0,.lst 11 [[.int .i64 4,.int .i64 0,.str nm,.str [],.int .i64 0,.nilSl,.int .i64 0,.int .i64 0,.int .i64 0,.int .i64 0,.int .i64 0]],.nilSl,.nilSl,.int .i64 0,.int .i64 0])] [o] bx =
  some (.val (.mu 1 0),[o,.rows 0 9 [[.int .i64 3,.str nm,.str [],.int .i64 0,.lst 11 [[.int .i64 4,.int .i64 0,.str nm,.str [],.int .i64 0,.nilSl,.int .i64 0,.int .i64 0,.int .i64 0,.int .i64 0,.int .i64 0]],.nilSl,.nilSl,.int .i64 0,.int .i64 0]]],bx):=rfl
theorem set_rows (nm:List UInt8)(l:List Sm):Sm.rows (setS nm::l)=[.int .i64 3,.str nm,.str [],.int .i64 0,.lst 11 [[.int .i64 4,.int .i64 0,.str nm,.str [],.int .i64 0,.nilSl,.int .i64 0,.int .i64 0,.int .i64 0,.int .i64 0,.int .i64 0]],.nilSl,.nilSl,.int .i64 0,.int .i64 0]::Sm.rows l:=by
 simp[Sm.rows,setS,Sm.row,esV,E.rows,E.row,T0]
theorem typedV_cases (p:Pg):(∃a,typedV p=.tup [Z5,.agg [.int .i64 3,.int .i64 a]])\/
  (∃bs,faultH (gdOf p)=none/\ckF (hdOf p) (hdOf p).sigs p.funcs=.ok bs/\typedV p=.tup [.agg (hdCells (hdOf p) (mainP p)++[lstV 3 (bs.map Bd.row)]),.agg [.int .i64 0,.int .i64 0]]):=by
 unfold typedV
 split
 ·rename_i a _;exact Or.inl ⟨a,rfl⟩
 ·rename_i hf
  cases hc:ckF (hdOf p) (hdOf p).sigs p.funcs with
  |error a=>exact Or.inl ⟨a,rfl⟩
  |ok bs=>exact Or.inr ⟨bs,hf,rfl,rfl⟩
theorem law_more (s:List UInt8)(n:Int):(orcL S).call 0 0 5 [.str s,.int .i64 n] []=some (.bool true,[]):=by
 have hF:=fine_progS s
 have hB:=progS_small s
 have ep:=fun wl lim st=>prog_ok wl lim s st
 have ek:=fun wl lim st=>call_any (S:=S) (f:=9) (sf:=s9) rfl rfl (args:=[]) rfl known0 wl lim st
 generalize progS s=P at *
 obtain⟨p,fe,fa⟩:=P
 simp only at ep hF hB
 have ec:=fun wl lim st=>R9.check_ok wl lim p st (gd_ok hF.inn) (gd_sm hF.inn) (fine_sz hF)
 have e1:=fun wl lim st=>sure_fine hF wl lim st
 have e2:=fun wl lim st=>rsure_fine hF wl lim st
 have hpr:p.row=[lstV 3 (p.recs.map Rc.row),lstV 4 (p.globals.map PD.cells),lstV 7 (p.funcs.map Fc.row)]:=rfl
 have f1:isSl (lstV 7 (p.funcs.map Fc.row))=true:=isSl_lstV
 have f2:(lstV 7 (p.funcs.map Fc.row)).view=lstV 7 (p.funcs.map Fc.row):=view_lstV
 have r1:isSl (lstV 3 (p.recs.map Rc.row))=true:=isSl_lstV
 have r2:(lstV 3 (p.recs.map Rc.row)).view=lstV 3 (p.recs.map Rc.row):=view_lstV
 have g1:isSl (lstV 4 (p.globals.map PD.cells))=true:=isSl_lstV
 have g2:(lstV 4 (p.globals.map PD.cells)).view=lstV 4 (p.globals.map PD.cells):=view_lstV
 have f3:rowsL (lstV 7 (p.funcs.map Fc.row))=p.funcs.map Fc.row:=rowsL_lstV
 refine call_pure (sf:=s5) rfl rfl (by simp) rfl (by simp) ?_
 rcases typedV_cases p with⟨a,ht⟩|⟨bs,hf,hc,ht⟩
 ·rw[ht,hpr]at ec
  rw[hpr]at ep
  simp only[Z5]at ec
  by_cases hl:(4000:Int)<(s.length:Int)
  ·simp[s5,ep,ec,hl,f1,f2,r1,r2,g1,g2,paste]
  by_cases hfe:fe=0
  ·simp[s5,ep,ec,hl,hfe,f1,f2,r1,r2,g1,g2,paste]
  ·simp[s5,ep,ec,hl,hfe,f1,f2,r1,r2,g1,g2,paste]
 ·rw[ht,hpr]at ec
  rw[hpr]at ep e1 e2
  simp only[hdCells,List.cons_append,List.nil_append]at ec
  by_cases hl:(4000:Int)<(s.length:Int)
  ·simp[s5,ep,ec,hl,f1,f2,r1,r2,g1,g2,paste]
  by_cases hfe:fe=0
  rotate_left
  ·simp[s5,ep,ec,hl,hfe,f1,f2,r1,r2,g1,g2,paste]
  by_cases hz:p.funcs=[]
  ·have hz':(p.funcs=[])=True:=eq_true hz
   simp[s5,ep,ec,hl,hfe,f1,f2,f3,r1,r2,g1,g2,paste,hz']
  have hz':(p.funcs=[])=False:=eq_false hz
  obtain⟨q,hq,hq2⟩:=low_bits n
  have hwq:IntKind.i64.wrap (q:Int)=(q:Int):=by rw[wrap64]<;>omega
  have hmod:(q:Int).tmod (p.funcs.length:Int)=((q % p.funcs.length:Nat):Int):=rfl
  have hn0:0<p.funcs.length:=by
   cases e:p.funcs with
   |nil=>exact absurd e hz
   |cons a l=>simp
  have hi:q % p.funcs.length<p.funcs.length:=Nat.mod_lt _ hn0
  have hn16:=hF.inn.f.1
  generalize q % p.funcs.length=i at *
  obtain⟨f,hf1⟩:∃f,p.funcs[i]?=some f:=⟨_,List.getElem?_eq_getElem hi⟩
  have hS3:rowsL (lstV 6 ((hdOf p).sigs.map Sg.row))=(hdOf p).sigs.map Sg.row:=rowsL_lstV
  have hSz:isSz 6 (lstV 6 ((hdOf p).sigs.map Sg.row))=true:=isSz_lst (by simp[fits,Sg.row])
  have hS1:isSl (lstV 6 ((hdOf p).sigs.map Sg.row))=true:=isSl_lstV
  have hS2:(lstV 6 ((hdOf p).sigs.map Sg.row)).view=lstV 6 ((hdOf p).sigs.map Sg.row):=view_lstV
  have hsg:((hdOf p).sigs.map Sg.row)[i]?=some (Sg.row (sgOf (namesOf p) f)):=by
   show ((p.funcs.map (sgOf (namesOf p))).map Sg.row)[i]?=_
   rw[List.getElem?_map,List.getElem?_map,hf1];rfl
  have hsg':∀h:i<(hdOf p).sigs.length,(hdOf p).sigs[i].row=[.str (sgOf (namesOf p) f).nm,fdsV (sgOf (namesOf p) f).ps,.bool (sgOf (namesOf p) f).has,.int .i64 (sgOf (namesOf p) f).res.b,.int .i64 (sgOf (namesOf p) f).res.r,.int .i64 (sgOf (namesOf p) f).res.d]:=fun h=>by
   rw[List.getElem?_map,List.getElem?_eq_getElem h]at hsg
   simpa [Sg.row] using hsg
  have hsl:(hdOf p).sigs.length=p.funcs.length:=by simp[hdOf]
  clear hsg
  cases hps:(sgOf (namesOf p) f).ps with
  |nil=>
   rw[hps]at hsg'
   have p1:isSl (fdsV [])=true:=isSl_fdsV
   simp[s5,ep,ec,hl,hfe,hz',hq,hwq,hmod,hi,f1,f2,f3,r1,r2,g1,g2,hS1,hS2,hS3,hSz,hsg',hsl,p1,AV.viewL,AV.view,paste,ek]
  |cons v ps=>
   rw[hps]at hsg'
   have p1:isSl (fdsV (v::ps))=true:=isSl_fdsV
   have hp0:((ps.length:Int)+1=0)=False:=eq_false (by omega)
   have hvr:v.row=[.str v.nm,.int .i64 v.ty.b,.int .i64 v.ty.r,.int .i64 v.ty.d]:=rfl
   have hz7:isSz 7 (lstV 7 (p.funcs.map Fc.row))=true:=isSz_lst (by simp[fits,Fc.row])
   have hft:fits 7 (p.funcs.map Fc.row)=true:=by simp[fits,Fc.row]
   have hr1:p.funcs.length*104<=room:=by unfold room;omega
   have hfr:∀h:i<p.funcs.length,p.funcs[i].row=[.str f.name,lstV 4 (f.params.map PD.cells),.bool f.has,.str f.on,.int .i64 f.od,ssV f.body,.int .i64 f.a]:=fun h=>by
    have:p.funcs[i]=f:=by
     rw[List.getElem?_eq_getElem h]at hf1
     exact Option.some.inj hf1
    rw[this];rfl
   have hb1:isSl (ssV f.body)=true:=isSl_lstV
   have hb2:(ssV f.body).view=ssV f.body:=view_lstV
   have hb3:rowsL (ssV f.body)=Sm.rows f.body:=rowsL_lstV
   have hBf:(Sm.rows f.body).length<=6001:=by
    have h1:=hB f (List.mem_of_getElem? hf1)
    have h2:∀l:List Sm,(Sm.rows l).length<=Sm.szs l:=fun l=>by
     induction l with
     |nil=>simp[Sm.rows]
     |cons x l ih=>
      have:1<=Sm.sz x:=by obtain⟨k,nm,on,od,es,bd,el,a,ref⟩:=x;rw[szMk];omega
      simp only[Sm.rows,Sm.szs,List.length_cons];omega
    have:=h2 f.body
    omega
   have hr2:(1+(Sm.rows f.body).length)*136<=room:=by unfold room;omega
   have hr3:(1+f.body.length)*136<=room:=by simpa using hr2
   have hfb:fits 9 (Sm.rows f.body)=true:=by
    rw[Smrows_map]
    simp only[fits,List.all_map,List.all_eq_true]
    intro s _
    obtain⟨k,nm,on,od,es,bd,el,a,ref⟩:=s
    rfl
   have hfz:=frz_more (p:=p) (f:=f) (a:=v.nm) hi
   rw[set_rows]at hfz
   have eq:=fun wl lim st=>sure_fine (fine_more hF hB hf1 v.nm) wl lim st
   rw[surO_more hf hc hf1 hps]at eq
   have hqr:(moreP p i f v.nm).row=[lstV 3 (p.recs.map Rc.row),lstV 4 (p.globals.map PD.cells),lstV 7 ((moreP p i f v.nm).funcs.map Fc.row)]:=rfl
   rw[hqr]at eq
   have q1:isSl (lstV 7 ((moreP p i f v.nm).funcs.map Fc.row))=true:=isSl_lstV
   have q2:(lstV 7 ((moreP p i f v.nm).funcs.map Fc.row)).view=lstV 7 ((moreP p i f v.nm).funcs.map Fc.row):=view_lstV
   generalize lstV 7 ((moreP p i f v.nm).funcs.map Fc.row)=QF at *
   simp[s5,hp0,hvr,hr1,hft,ep,ec,hl,hfe,hz',hq,hwq,hmod,hi,f1,f2,f3,r1,r2,g1,g2,hS1,hS2,hS3,hSz,hsg',hsl,p1,AV.viewL,AV.view,paste,W_drawB,boxOk]
   rw[W_drawP]
   simp[evalRec,hfr,hb1,hb2,hb3,hz7,hr3,hfb,hi,f2,f3,a_litM9,pairOk,readsSame,mayWrite,AV.allPure,AV.isPure,AV.viewL,AV.view,paste,boxOk,SOp.newBox]
   refine⟨_,_,⟨rfl,rfl⟩,?_⟩
   simp[hz7,hi,hfr,f3,optE,oneOrAgg,AV.viewL,AV.view,Ent.same,AV.same]
   refine⟨⟨sameLL_rfl _,same_rfl _⟩,?_⟩
   rw[W_frzB]
   refine⟨_,_,_,_,rfl,rfl,hfz,?_⟩
   unfold fltV at e1 e2 eq
   generalize cE (sureO p)=ce at *
   generalize cX (sureO p)=cx at *
   simp[f2,r2,g2,q2,paste,AV.view,AV.viewL,oneOrAgg,W_draw0,noBoxes,e1,e2,eq,ek]
end S9
