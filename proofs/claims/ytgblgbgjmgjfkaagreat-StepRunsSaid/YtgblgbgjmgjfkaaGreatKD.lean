/-
  runrigref13's machine: what is printed.
-/
import Derived.Test.YtgblgbgjmgjfkaaGreatKC
import Derived.Test.YtgblgbgjmgjfkaaGreatJ
import Derived.Test.YtgblgbgjmgjfkaaGreatQ

set_option maxRecDepth 100000
set_option maxHeartbeats 8000000
namespace E13
open Ax Go Code14z IrV Mach
variable {T:XD}{lim:Nat}{L:List Fr}{r:Ms}{I:Ids}{st st':Store}{f g:Fr}{i:ID}{X:MP}{a:Nat×Nat}{b:List (Nat×Nat)}{R:List (List AV)}{c:CD}{k:Nat}
theorem out_new(h:Rep T lim L r I st)(hO:r.out.length<1000000)(v:Int)(li:Nat)(hli:li<=lim):∃(o ov:Nat)(S1:Store),
  ((r.out≠[]/\o=I.o)\/st.length<=o)/\st.length<=S1.length/\(∀j,j<st.length->(r.out≠[]->j≠I.o)->S1[j]?=st[j]?)/\S1[o]?=some (.rows ov 1 (ints (r.out++[v])))/\
  ∀bx,act0 0 li (.appendM 1 8) [.val (oV r.out I.o I.ov),.val (.lst 1 [[.int .i64 v]])] st bx=some (.val (.mu o ov),S1,bx):=by
 have hb:bringsOf st (.lst 1 [[.int .i64 v]])=some [[.int .i64 v]]:=rfl
 have hf:fits 1 [[AV.int .i64 v]]=true:=rfl
 by_cases e:r.out=[]
 ·refine⟨st.length,0,st++[.rows 0 1 [[.int .i64 v]]],.inr (Nat.le_refl _),by simp,fun j hj _=>List.getElem?_append_left hj,?_,fun bx=>?_⟩
  ·rw[e];simp[ints]
  ·unfold oV
   rw[if_pos e,a_appendM0,hb]
   simp[hf,room]
 ·have hF:=h.O e
  have hlt:=lt_of hF
  have hlp:=h.low I.o (by rw[h.lo e];decide)
  refine⟨I.o,I.ov+1,st.set I.o (.rows (I.ov+1) 1 (ints r.out++[[.int .i64 v]])),.inl ⟨e,rfl⟩,by simp,fun j hj hn=>List.getElem?_set_ne fun c=>hn e c.symm,?_,fun bx=>?_⟩
  ·rw[List.getElem?_set_self hlt];simp[ints]
  ·unfold oV
   rw[if_neg e,a_appendM,hb]
   have hr:((ints r.out).length+[[AV.int .i64 v]].length)*8<=room:=by simp[ints];unfold room;omega
   simp only[Option.bind_some,hf,if_true,hF]
   rw[if_pos ⟨trivial,trivial,hr,Nat.zero_le _,.inl (Nat.le_trans hli hlp)⟩]
end E13
namespace E13
open Ax Go Code14z IrV Mach
variable {T:XD}{lim:Nat}{L:List Fr}{r:Ms}{I:Ids}{st st':Store}{f g:Fr}{i:ID}{X:MP}{a:Nat×Nat}{b:List (Nat×Nat)}{R:List (List AV)}{c:CD}{k:Nat}
theorem op15(h:At T lim L r I st f i a b R c k)(ho:i.op=15)(ha:inV f.vs.length i.a)(hO:r.out.length<1000000):Did T lim (doI X { r with l:=nx f::L } f.vs i) I st:=by
 obtain⟨hP,hC,hs,hvw,hlC,hNs,hNv,hNl,hNz,hsI,hvI,hw,hw1,hz2,gR,sR,hfc,hcc,hkk,hki,hsN⟩:=h.facts
 have hF:=h.hF
 have hRl:=h.Rl
 obtain⟨n,hnl,hn,hg1⟩:=got h ha
 have hpf:I.p≠I.f:=fun q=>by
  have h1:=h.rep.lf h.nl
  rw[<-q,h.rep.lp]at h1
  cases h1
 have hPN:(stN st I R f a)[I.p]?=st[I.p]?:=by unfold stN;exact List.getElem?_set_ne hpf.symm
 rw[hP]at hPN
 have hne:f.vs≠[]:=by intro q;rw[q]at hnl;simp at hnl
 obtain⟨g1,g2,g3,g4,g5,g6⟩:=h.vars hne
 have hvv:vV f a=.mu a.1 a.2:=if_neg hne
 rw[hvv]at hsN
 have hcc':(dCs T.codes)[f.f]=c:=by have:=hcc;rw[List.getElem?_eq_getElem hfc]at this;exact Option.some.inj this
 have hki':(dNs c.ins)[k]=i:=by have:=hki;rw[List.getElem?_eq_getElem hkk]at this;exact Option.some.inj this
 have hli:(ints f.vs).length=f.vs.length:=by simp[ints]
 have t0:=trap0
 obtain⟨o,ov,S1,q1,q2,q3,q4,q5⟩:=out_new h.next hO f.vs[n] lim (Nat.le_refl _)
 have hlo:r.out≠[]->I.p≠I.o:=fun e q=>by
  have h1:=h.rep.lo e
  rw[<-q,h.rep.lp]at h1
  cases h1
 have hplt:I.p<(stN st I R f a).length:=lt_of hPN
 have hP1:S1[I.p]?=some (.rows 0 13 [[T.recs,T.globals,T.codes,T.sites,.int .i64 T.main,I.iv,lV r.s I.q I.v,.mu I.g 0,.mu I.f I.fv,.int .i64 r.e,.int .i64 r.code,oV r.out I.o I.ov,.int .i64 r.steps]]):=by rw[q3 _ hplt hlo];exact hPN
 have hpo:I.p≠o:=by
  rcases q1 with⟨e,d⟩|d
  ·rw[d];exact hlo e
  ·omega
 have hfv:fV I=.mu I.f I.fv:=by unfold fV;rw[if_neg (by rw[h.nl];simp)]
 have hlp:=h.rep.lim_le
 have ovv:(oV r.out I.o I.ov).view=oV r.out I.o I.ov:=by unfold oV;split<;>rfl
 have hR:=(h.next.printed (st':=S1.set I.p (.rows 0 13 [theRow T { r with out:=r.out++[f.vs[n]] } { I with o:=o,ov:=ov }])) (o:=o) (ov:=ov) (out:=r.out++[f.vs[n]]) (by simp) q1
  (fun j hj n1 n2=>by rw[List.getElem?_set_ne fun e=>n1 e.symm];exact q3 j hj n2) (List.getElem?_set_self (by omega)) (by rw[List.getElem?_set_ne hpo];exact q4)).anyl (nx f::L)
 have hov:oV (r.out++[f.vs[n]]) o ov=.mu o ov:=if_neg (by simp)
 have hfv2:fV { I with o:=o,ov:=ov }=.mu I.f I.fv:=hfv
 simp only[theRow,mRow,hov,hfv2]at hR
 refine⟨_,_,{ r with out:=r.out++[f.vs[n]],l:=nx f::L },?_,?_,?_,hR,?_⟩
 ·simp[stN]at q2 ⊢;exact q2
 ·refine call_run (sf:=s24) rfl rfl rfl ?_
  simp[s24,hP,cut,hF,hRl,hw,fRow,h.at_,hz2,W_draw0,noBoxes]
  rw[W_drawB]
  simp[-a_appendM0,-a_appendM,ovv,boxOk,SOp.newBox,paste,mayWrite,AV.allPure,AV.isPure,ho,hsI,hvI,g1,hn,hnl,hvv,hsN,hli,t0,hlp,q5,hP1,hC,hP,cut,hF,hRl,hvw,hlC,hNv,hNl,hNz,CD.cells,fRow,h.at_,hw1,sR,hfc,hcc',hkk,hki',ID.cells,W_draw0,noBoxes,hPN]
 ·rfl
 ·have:doI X { r with l:=nx f::L } f.vs i={ r with out:=r.out++[f.vs[n]],l:=nx f::L }:=by
   unfold doI
   rw[if_neg (by omega),if_neg (by omega),if_neg (by omega),if_neg (by omega),if_neg (by omega),if_neg (by omega),if_neg (by omega),if_neg (by omega),if_neg (by omega),if_neg (by omega),if_neg (by omega),if_neg (by omega),if_neg (by omega),if_neg (by omega),if_pos ho,hn,hg1]
  rw[this];exact Eqv.refl _
end E13
namespace E13
open Ax Go Code14z IrV Mach
variable {T:XD}{lim:Nat}{L:List Fr}{r:Ms}{I:Ids}{st st':Store}{f g:Fr}{i:ID}{X:MP}{a:Nat×Nat}{b:List (Nat×Nat)}{R:List (List AV)}{c:CD}{k:Nat}
theorem notOwn_sub{v:AV}(h:notOwn v=true)(lo hi:Nat):notOwn (subV v lo hi)=true:=by cases v<;>simp_all [notOwn,subV]
theorem op14(h:At T lim L r I st f i a b R c k)(ho:i.op=14)(ha:inV f.vs.length i.a):Did T lim (doI X { r with l:=nx f::L } f.vs i) I st:=by
 obtain⟨hP,hC,hs,hvw,hlC,hNs,hNv,hNl,hNz,hsI,hvI,hw,hw1,hz2,gR,sR,hfc,hcc,hkk,hki,hsN⟩:=h.facts
 have hF:=h.hF
 have hRl:=h.Rl
 obtain⟨n,hnl,hn,hg1⟩:=got h ha
 have hpf:I.p≠I.f:=fun q=>by
  have h1:=h.rep.lf h.nl
  rw[<-q,h.rep.lp]at h1
  cases h1
 have hPN:(stN st I R f a)[I.p]?=st[I.p]?:=by unfold stN;exact List.getElem?_set_ne hpf.symm
 rw[hP]at hPN
 have hne:f.vs≠[]:=by intro q;rw[q]at hnl;simp at hnl
 obtain⟨g1,g2,g3,g4,g5,g6⟩:=h.vars hne
 have hvv:vV f a=.mu a.1 a.2:=if_neg hne
 rw[hvv]at hsN
 have hcc':(dCs T.codes)[f.f]=c:=by have:=hcc;rw[List.getElem?_eq_getElem hfc]at this;exact Option.some.inj this
 have hki':(dNs c.ins)[k]=i:=by have:=hki;rw[List.getElem?_eq_getElem hkk]at this;exact Option.some.inj this
 have hset:∀w:Int,(ints f.vs).set n [.int .i64 w]=ints (f.vs.set n w):=fun w=>by simp[ints,List.map_set]
 have hli:(ints f.vs).length=f.vs.length:=by simp[ints]
 obtain⟨j1,j2,j3⟩:=h.rep.iv
 have gs:=isSl_I j1
 have gz:=isSz_I j1
 have gv:=view_notOwn j2 gs
 have gl:=rowsL_I j1
 have em:doI X { r with l:=nx f::L } f.vs i=readM { r with l:=nx f::L } i.a:=by
  unfold doI
  rw[if_neg (by omega),if_neg (by omega),if_neg (by omega),if_neg (by omega),if_neg (by omega),if_neg (by omega),if_neg (by omega),if_neg (by omega),if_neg (by omega),if_neg (by omega),if_neg (by omega),if_neg (by omega),if_neg (by omega),if_pos ho]
 rw[em]
 obtain hr|⟨w,rr,hr⟩:r.inp=[]\/∃w rr,r.inp=w::rr:=by
  cases r.inp with
  |nil=>exact .inl rfl
  |cons w rr=>exact .inr ⟨w,rr,rfl⟩
 ·
  obtain⟨s1,l1,t1,r1⟩:=trap_ok h.next 5
  have t0:=t1 lim
  have hl0:dI I.iv=[]:=by rw[j3,hr]
  have hm:readM { r with l:=nx f::L } i.a={ trapM r 5 with l:=nx f::L }:=by
   unfold readM
   split
   ·rfl
   ·rename_i e
    have e':r.inp=_:=e
    rw[hr]at e'
    cases e'
  rw[hm]
  refine⟨s1,I,_,?_,?_,rfl,r1.anyl _,Eqv.refl _⟩
  ·rw[l1];simp[stN]
  ·refine call_run (sf:=s24) rfl rfl rfl ?_
   simp[s24,hP,cut,hF,hRl,hw,fRow,h.at_,hz2,W_draw0,noBoxes]
   rw[W_drawB]
   simp[boxOk,SOp.newBox,paste,mayWrite,AV.allPure,AV.isPure,ho,hsI,hvI,hn,hvv,hsN,t0,gs,gv,gl,hl0,ints,hC,hP,cut,hF,hRl,hvw,hlC,hNv,hNl,hNz,CD.cells,fRow,h.at_,hw1,sR,hfc,hcc',hkk,hki',ID.cells,hPN]
 ·have hl0:dI I.iv=w::rr:=by rw[j3,hr]
  have hm:readM { r with l:=nx f::L } i.a={ r with inp:=rr,l:={ nx f with vs:=f.vs.set n w }::L }:=by
   unfold readM
   split
   ·rename_i e
    have e':r.inp=_:=e
    rw[hr]at e'
    cases e'
   ·rename_i x y e
    have e':r.inp=_:=e
    rw[hr]at e'
    cases e'
    unfold setM
    rw[hn];rfl
  have hsub:notOwn (subV I.iv 1 (rr.length+1))=true:=notOwn_sub j2 _ _
  have hd2:dI (subV I.iv 1 (rr.length+1))=rr:=by rw[dI_sub j1,hl0];simp
  have hs2:isSl (subV I.iv 1 (rr.length+1))=true:=isSl_sub gs
  have hR:=((h.var hnl w).row { r with inp:=rr } (subV I.iv 1 (rr.length+1)) rfl rfl rfl ⟨isI_sub j1,hsub,hd2⟩).anyl ({ nx f with vs:=f.vs.set n w }::L)
  have hPV:(stV (stN st I R f a) a (f.vs.set n w))[I.p]?=some (.rows 0 13 [theRow T r I]):=(h.var hnl w).P
  have hfv:fV I=.mu I.f I.fv:=by unfold fV;rw[if_neg (by rw[h.nl];simp)]
  have h0:¬((rr.length:Int)+1=0):=by omega
  have h1:(1:Int)<=(rr.length:Int)+1:=by omega
  have hrl:(ints (w::rr)).length=rr.length+1:=by simp[ints]
  have hi0:(ints (w::rr))[0]?=some [.int .i64 w]:=rfl
  have il1:=h.rep.lim_le
  have t0:=trap0
  rw[hm]
  have hfv2:fV { I with iv:=subV I.iv 1 (rr.length+1) }=.mu I.f I.fv:=hfv
  simp only[theRow,mRow,hfv,hfv2,stV]at hPV hR
  refine⟨_,_,_,?_,?_,?_,hR,Eqv.refl _⟩
  ·simp[stN]
  ·refine call_run (sf:=s24) rfl rfl rfl ?_
   simp[s24,hP,cut,hF,hRl,hw,fRow,h.at_,hz2,W_draw0,noBoxes]
   rw[W_drawB]
   simp[boxOk,SOp.newBox,paste,mayWrite,AV.allPure,AV.isPure,ho,hsI,hvI,g1,g4,hn,hnl,hvv,hsN,t0,gs,gv,gl,hl0,gz,h0,h1,hs2,hset,hli,hPV,hrl,il1,hC,hP,cut,hF,hRl,hvw,hlC,hNv,hNl,hNz,CD.cells,fRow,h.at_,hw1,sR,hfc,hcc',hkk,hki',ID.cells,W_draw0,noBoxes,hPN]
  ·rfl
end E13
namespace E13
open Ax Go Code14z IrV Mach
variable {T:XD}{lim:Nat}{L:List Fr}{r:Ms}{I:Ids}{st st':Store}{f g:Fr}{i:ID}{X:MP}{a:Nat×Nat}{b:List (Nat×Nat)}{R:List (List AV)}{c:CD}{k:Nat}
theorem op12_no(h:At T lim L r I st f i a b R c k)(ho:i.op=12)(ha:inV f.vs.length i.a)(hb:inV f.vs.length i.b)(hq:vAt f.vs i.b<0\/50<vAt f.vs i.b):Did T lim (doI X { r with l:=nx f::L } f.vs i) I st:=by
 obtain⟨hP,hC,hs,hvw,hlC,hNs,hNv,hNl,hNz,hsI,hvI,hw,hw1,hz2,gR,sR,hfc,hcc,hkk,hki,hsN⟩:=h.facts
 have hF:=h.hF
 have hRl:=h.Rl
 obtain⟨n,hnl,hn,_⟩:=got h ha
 obtain⟨n2,hnl2,hn2,hg2⟩:=got h hb
 rw[hn2,hg2]at hq
 have u1:=fun wl li st pt=>arr_no wl li 0 f.vs[n2] st pt hq
 have hne:f.vs≠[]:=by intro q;rw[q]at hnl;simp at hnl
 obtain⟨g1,g2,g3,g4,g5,g6⟩:=h.vars hne
 have hvv:vV f a=.mu a.1 a.2:=if_neg hne
 rw[hvv]at hsN
 have hcc':(dCs T.codes)[f.f]=c:=by have:=hcc;rw[List.getElem?_eq_getElem hfc]at this;exact Option.some.inj this
 have hki':(dNs c.ins)[k]=i:=by have:=hki;rw[List.getElem?_eq_getElem hkk]at this;exact Option.some.inj this
 have hset:∀w:Int,(ints f.vs).set n [.int .i64 w]=ints (f.vs.set n w):=fun w=>by simp[ints,List.map_set]
 have hli:(ints f.vs).length=f.vs.length:=by simp[ints]
 obtain⟨s3,l3,t3,r3⟩:=trap_ok (h.var hnl ((0:Int),(4:Int)).1) ((0:Int),(4:Int)).2
 have t0:=t3 lim
 unfold stV at t0
 refine⟨s3,I,{ trapM r ((0:Int),(4:Int)).2 with l:={ nx f with vs:=f.vs.set n ((0:Int),(4:Int)).1 }::L },?_,?_,rfl,r3.anyl _,?_⟩
 ·rw[l3];simp[stV,stN]
 ·refine call_run (sf:=s24) rfl rfl rfl ?_
  simp[s24,hP,cut,hF,hRl,hw,fRow,h.at_,hz2,W_draw0,noBoxes]
  rw[W_drawB]
  simp[boxOk,SOp.newBox,paste,mayWrite,AV.allPure,AV.isPure,ho,hsI,hvI,g1,g4,hn,hnl,hvv,hsN,hset,hli,t0,hC,hP,cut,hF,hRl,hvw,hlC,hNv,hNl,hNz,CD.cells,fRow,h.at_,hw1,sR,hfc,hcc',hkk,hki',ID.cells,W_draw0,noBoxes,hn2,hnl2,u1]
 ·have:doI X { r with l:=nx f::L } f.vs i=gotM { r with l:=nx f::L } i.a ((0:Int),(4:Int)):=by
   unfold doI
   rw[if_neg (by omega),if_neg (by omega),if_neg (by omega),if_neg (by omega),if_neg (by omega),if_neg (by omega),if_neg (by omega),if_neg (by omega),if_neg (by omega),if_neg (by omega),if_neg (by omega),if_pos ho,hn2,hg2,if_pos hq]
   rfl
  rw[this];exact eqv_got hn
end E13
namespace E13
open Ax Go Code14z IrV Mach
variable {T:XD}{lim:Nat}{L:List Fr}{r:Ms}{I:Ids}{st st':Store}{f g:Fr}{i:ID}{X:MP}{a:Nat×Nat}{b:List (Nat×Nat)}{R:List (List AV)}{c:CD}{k:Nat}
theorem op12_ok(h:At T lim L r I st f i a b R c k)(ho:i.op=12)(ha:inV f.vs.length i.a)(hS:r.s.length<1000000)(hb:inV f.vs.length i.b){q:Nat}(hq:vAt f.vs i.b=q)(hq2:q<=50):Did T lim (doI X { r with l:=nx f::L } f.vs i) I st:=by
 obtain⟨hP,hC,hs,hvw,hlC,hNs,hNv,hNl,hNz,hsI,hvI,hw,hw1,hz2,gR,sR,hfc,hcc,hkk,hki,hsN⟩:=h.facts
 have hF:=h.hF
 have hRl:=h.Rl
 obtain⟨n,hnl,hn,_⟩:=got h ha
 obtain⟨n2,hnl2,hn2,hg2⟩:=got h hb
 rw[hn2,hg2]at hq
 have hne:f.vs≠[]:=by intro q;rw[q]at hnl;simp at hnl
 obtain⟨g1,g2,g3,g4,g5,g6⟩:=h.vars hne
 have hvv:vV f a=.mu a.1 a.2:=if_neg hne
 rw[hvv]at hsN
 have hcc':(dCs T.codes)[f.f]=c:=by have:=hcc;rw[List.getElem?_eq_getElem hfc]at this;exact Option.some.inj this
 have hki':(dNs c.ins)[k]=i:=by have:=hki;rw[List.getElem?_eq_getElem hkk]at this;exact Option.some.inj this
 have hset:∀w:Int,(ints f.vs).set n [.int .i64 w]=ints (f.vs.set n w):=fun w=>by simp[ints,List.map_set]
 have hli:(ints f.vs).length=f.vs.length:=by simp[ints]
 obtain⟨s2,I2,l2,t2,p2,f2,R2⟩:=arr_ok h.next hS q hq2
 have u1:=t2 lim (Nat.le_refl _)
 have hab2:I2.fl=a::b:=f2.trans h.ab
 have hFR2:=R2.FR
 rw[hab2]at hFR2
 have k1:s2[a.1]?=some (.rows a.2 1 (ints f.vs)):=hFR2.1 hne
 have t0:=trap0
 have R3:=(R2.frame (f:=nx f) hab2 (vs':=f.vs.set n ((r.s.length:Int)+1)) (by simp[nx]) hne).anyl ({ nx f with vs:=f.vs.set n ((r.s.length:Int)+1) }::L)
 refine⟨_,I2,{ r with s:=r.s++[List.replicate q 0],l:={ nx f with vs:=f.vs.set n ((r.s.length:Int)+1) }::L },?_,?_,p2,R3,?_⟩
 ·simp[stN]at l2 ⊢;exact l2
 ·refine call_run (sf:=s24) rfl rfl rfl ?_
  simp[s24,hP,cut,hF,hRl,hw,fRow,h.at_,hz2,W_draw0,noBoxes]
  rw[W_drawB]
  simp[boxOk,SOp.newBox,paste,mayWrite,AV.allPure,AV.isPure,ho,hsI,hvI,g1,g4,hn,hnl,hvv,hsN,hset,hli,t0,hC,hP,cut,hF,hRl,hvw,hlC,hNv,hNl,hNz,CD.cells,fRow,h.at_,hw1,sR,hfc,hcc',hkk,hki',ID.cells,W_draw0,noBoxes,hn2,hnl2,hq,u1,k1,newR]
 ·have:doI X { r with l:=nx f::L } f.vs i={ r with s:=r.s++[List.replicate q 0],l:={ nx f with vs:=f.vs.set n ((r.s.length:Int)+1) }::L }:=by
   unfold doI
   rw[if_neg (by omega),if_neg (by omega),if_neg (by omega),if_neg (by omega),if_neg (by omega),if_neg (by omega),if_neg (by omega),if_neg (by omega),if_neg (by omega),if_neg (by omega),if_neg (by omega),if_pos ho,hn2,hg2,hq,if_neg (by omega),Int.toNat_natCast]
   unfold setM
   rw[hn];rfl
  rw[this];exact Eqv.refl _
end E13
namespace E13
open Ax Go Code14z IrV Mach U12
theorem rcellsOf_ok{x:XD}(hx:x.ok)(hb3:∀r∈dRs x.recs,(dFs r.fields).length<100)(wl lim:Nat)(k:Nat)(hk:k<(dSs x.sites).length)
  (hR0:¬0<(dSs x.sites)[k].t.d->∃r:Nat,(dSs x.sites)[k].t.r=r/\r<(dRs x.recs).length)(st:Store):(orcL S).call wl lim 76 [xAV x,.int .i64 k] st=some (cellsV x k,st):=by
 have hs:=hx.sl
 have hS:=hx.sites
 have hR:=hx.recs
 have hl:rowsL x.recs=(dRs x.recs).map RD.cells/\rowsL x.sites=(dSs x.sites).map SD.cells:=⟨rowsL_R hx.recs,rowsL_S hx.sites⟩
 have hd:=inR_S hS _ (List.getElem_mem hk)
 by_cases d0:0<(dSs x.sites)[k].t.d
 ·have hle:=less_ok 0 0 (dSs x.sites)[k].t [] d0 hd
  refine call_pure (sf:=s76) rfl rfl (by simp[hx.pure]) rfl (by simp[cellsV,hk,d0]) ?_
  simp[s76,xAV,hs,hl,hS,cellsV,hk,SD.cells,d0,hle]
 ·obtain⟨r,hr,hrl⟩:=hR0 d0
  have hF:=isRs_get hR _ (List.getElem_mem hrl)
  have hFs:=isSl_F hF
  have hFv:=isFs_vw hF
  have hFl:=rowsL_F hF
  have hFn:=hb3 _ (List.getElem_mem hrl)
  have ev:cellsV x k=mkL 3 (fts x r 1000000000):=by simp[hk,cellsV,d0,hr]
  rw[ev]
  refine call_pure (sf:=s76) rfl rfl (by simp[hx.pure]) rfl (by simp) ?_
  simp[s76,xAV,hs,hl,hS,hR,hk,SD.cells,d0,hr]
  refine W_loopI s76_l0.eq_1 (fun j:Nat=>⟨[(2,.fp 0 0),(5,.fp 1 0),(6,.val (mkL 3 (fts x r j))),(7,.val (.int .i64 j))],
    [[x.recs,x.globals,x.codes,x.sites,.int .i64 x.main],[.int .i64 (dSs x.sites)[k].t.b,.int .i64 r,.int .i64 (dSs x.sites)[k].t.d]],[]⟩)
   (fun j=>j<=(dFs (dRs x.recs)[r].fields).length) (fun j=>(dFs (dRs x.recs)[r].fields).length-j) 0 (by simp[fts,mkL_nil]) (by simp) ?_
  intro j hj ih
  by_cases hjl:j<(dFs (dRs x.recs)[r].fields).length
  ·have hw:IntKind.i64.wrap ((j:Int)+1)=((j+1:Nat):Int):=by rw[wrap64]<;>omega
   have ha:appV 3 24 (mkL 3 (fts x r j)) [(dFs (dRs x.recs)[r].fields)[j].t.cells]=some (mkL 3 (fts x r (j+1))):=by
    rw[appV_mk (by rfl) (by simp[room,fts_at hrl];omega)]
    rw[fts_at hrl,fts_at hrl,List.take_succ_eq_append_getElem hjl,List.map_append]
    rfl
   simp only[T3.cells]at ha
   simp[hs,hl,hR,RD.cells,hrl,hF,hFv,hFl,hjl,FD.cells,ha,hw]
   exact ih (j+1) (by omega) (by omega)
  ·have hjk:j=(dFs (dRs x.recs)[r].fields).length:=by omega
   have e:fts x r 1000000000=fts x r j:=by
    rw[fts_at hrl,fts_at hrl,List.take_of_length_le (by omega),List.take_of_length_le (by omega)]
   rw[e]
   simp[hs,hl,hR,RD.cells,hrl,hF,hFv,hFl,hjl]
variable {T:XD}{lim:Nat}{L:List Fr}{r:Ms}{I:Ids}{st st':Store}{f g:Fr}{i:ID}{X:MP}{a:Nat×Nat}{b:List (Nat×Nat)}{R:List (List AV)}{c:CD}{k:Nat}
theorem xA_row(hP:T.ok)(w:Int)(hw:0<=w)(hw2:w<(dSs T.sites).length)(hr:rightT T=true)(wl li:Nat)(st:Store) :
  (orcL S).call wl li 76 [.agg [T.recs,T.globals,T.codes,T.sites,.int .i64 T.main],.int .i64 w] st=some (cellsV T w.toNat,st):=by
 obtain⟨k,rfl⟩:∃k:Nat,w=k:=⟨w.toNat,by omega⟩
 have hk:k<(dSs T.sites).length:=by omega
 have hb3:∀r∈dRs T.recs,(dFs r.fields).length<100:=fun r hm=>by
  have h:=hr
  simp only[rightT,Bool.and_eq_true]at h
  have:=List.all_eq_true.1 h.1.1.1.2 r hm
  unfold recT at this
  simp only[Bool.and_eq_true,decide_eq_true_eq]at this
  omega
 exact rcellsOf_ok hP hb3 wl li k hk (fun h0=>site_rec hr hk h0) st
theorem op11(h:At T lim L r I st f i a b R c k)(ho:i.op=11)(ha:inV f.vs.length i.a)(hS:r.s.length<1000000)(hr:rightT T=true)(hn0:0<=i.n)(hn1:i.n<(dSs T.sites).length){q:Nat}(hq:clampN ((rowsL (cellsV T i.n.toNat)).length:Int)=q)(hX:X.cells.getD i.n.toNat 0=(rowsL (cellsV T i.n.toNat)).length):Did T lim (doI X { r with l:=nx f::L } f.vs i) I st:=by
 obtain⟨hP,hC,hs,hvw,hlC,hNs,hNv,hNl,hNz,hsI,hvI,hw,hw1,hz2,gR,sR,hfc,hcc,hkk,hki,hsN⟩:=h.facts
 have hF:=h.hF
 have hRl:=h.Rl
 obtain⟨n,hnl,hn,_⟩:=got h ha
 have ec:=fun wl li st=>xA_row h.x i.n hn0 hn1 hr wl li st
 have hrs:isSl (cellsV T i.n.toNat)=true:=by
  have:=cellsT_l T i.n
  obtain⟨l,hl,_⟩:=this
  rw[cellsT,if_pos ⟨hr,hn0,hn1⟩]at hl
  exact isSl_sz hl
 have hpf:I.p≠I.f:=fun q=>by
  have h1:=h.rep.lf h.nl
  rw[<-q,h.rep.lp]at h1
  cases h1
 have hPN:(stN st I R f a)[I.p]?=st[I.p]?:=by unfold stN;exact List.getElem?_set_ne hpf.symm
 rw[hP]at hPN
 have w1:=isRs_vw h.x.recs
 have w2:=isTs_vw h.x.globals
 have w3:=isSs_vw h.x.sites
 have hne:f.vs≠[]:=by intro q;rw[q]at hnl;simp at hnl
 obtain⟨g1,g2,g3,g4,g5,g6⟩:=h.vars hne
 have hvv:vV f a=.mu a.1 a.2:=if_neg hne
 rw[hvv]at hsN
 have hcc':(dCs T.codes)[f.f]=c:=by have:=hcc;rw[List.getElem?_eq_getElem hfc]at this;exact Option.some.inj this
 have hki':(dNs c.ins)[k]=i:=by have:=hki;rw[List.getElem?_eq_getElem hkk]at this;exact Option.some.inj this
 have hset:∀w:Int,(ints f.vs).set n [.int .i64 w]=ints (f.vs.set n w):=fun w=>by simp[ints,List.map_set]
 have hli:(ints f.vs).length=f.vs.length:=by simp[ints]
 obtain⟨s2,I2,l2,t2,p2,f2,R2⟩:=rec_ok h.next hS ((rowsL (cellsV T i.n.toNat)).length:Int)
 have u1:=t2 lim (Nat.le_refl _)
 rw[hq]at u1 R2
 have hab2:I2.fl=a::b:=f2.trans h.ab
 have hFR2:=R2.FR
 rw[hab2]at hFR2
 have k1:s2[a.1]?=some (.rows a.2 1 (ints f.vs)):=hFR2.1 hne
 have t0:=trap0
 have R3:=(R2.frame (f:=nx f) hab2 (vs':=f.vs.set n ((r.s.length:Int)+1)) (by simp[nx]) hne).anyl ({ nx f with vs:=f.vs.set n ((r.s.length:Int)+1) }::L)
 refine⟨_,I2,{ r with s:=r.s++[List.replicate q 0],l:={ nx f with vs:=f.vs.set n ((r.s.length:Int)+1) }::L },?_,?_,p2,R3,?_⟩
 ·simp[stN]at l2 ⊢;exact l2
 ·refine call_run (sf:=s24) rfl rfl rfl ?_
  simp[s24,hP,cut,hF,hRl,hw,fRow,h.at_,hz2,W_draw0,noBoxes]
  rw[W_drawB]
  simp[boxOk,SOp.newBox,paste,mayWrite,AV.allPure,AV.isPure,ho,hsI,hvI,g4,hn,hnl,hvv,hsN,hset,hli,t0,hC,hP,cut,hF,hRl,hvw,hlC,hNv,hNl,hNz,CD.cells,fRow,h.at_,hw1,sR,hfc,hcc',hkk,hki',ID.cells,W_draw0,noBoxes,u1,k1,newR,ec,hrs,hPN,AV.viewL,w1,w2,w3]
 ·have:doI X { r with l:=nx f::L } f.vs i={ r with s:=r.s++[List.replicate q 0],l:={ nx f with vs:=f.vs.set n ((r.s.length:Int)+1) }::L }:=by
   unfold doI
   rw[if_neg (by omega),if_neg (by omega),if_neg (by omega),if_neg (by omega),if_neg (by omega),if_neg (by omega),if_neg (by omega),if_neg (by omega),if_neg (by omega),if_neg (by omega),if_pos ho,hX,hq]
   unfold setM
   rw[hn];rfl
  rw[this];exact Eqv.refl _
end E13
