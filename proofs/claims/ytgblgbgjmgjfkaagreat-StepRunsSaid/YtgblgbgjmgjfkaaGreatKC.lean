/-
  runrigref13's machine: instructions that lay a value and may trap.
-/
import Derived.Test.YtgblgbgjmgjfkaaGreatKB

set_option maxRecDepth 100000
set_option maxHeartbeats 8000000
namespace E13
open Ax Go Code14z IrV Mach
variable {T:XD}{lim:Nat}{L:List Fr}{r:Ms}{I:Ids}{st st':Store}{f g:Fr}{i:ID}{X:MP}{a:Nat×Nat}{b:List (Nat×Nat)}{R:List (List AV)}{c:CD}{k:Nat}
theorem eqv_got{n:Nat}{w q v:Int}(hn:v=(n:Int)):Eqv { trapM r q with l:={ nx f with vs:=f.vs.set n w }::L } (gotM { r with l:=nx f::L } v (w,q)):=by
 unfold gotM
 by_cases h:q=0
 ·simp only[h,if_true]
  unfold setM
  rw[hn]
  exact Eqv.refl _
 ·simp only[if_neg h]
  unfold trapM
  rw[if_neg h,if_neg h]
  exact⟨rfl,rfl,rfl,rfl,fun e=>by simp at e⟩
theorem op4(h:At T lim L r I st f i a b R c k)(ho:i.op=4)(ha:inV f.vs.length i.a)(hb:inV f.vs.length i.b)(hc:inV f.vs.length i.c):Did T lim (doI X { r with l:=nx f::L } f.vs i) I st:=by
 obtain⟨hP,hC,hs,hvw,hlC,hNs,hNv,hNl,hNz,hsI,hvI,hw,hw1,hz2,gR,sR,hfc,hcc,hkk,hki,hsN⟩:=h.facts
 have hF:=h.hF
 have hRl:=h.Rl
 obtain⟨n,hnl,hn,_⟩:=got h ha
 obtain⟨n2,hnl2,hn2,hg2⟩:=got h hb
 obtain⟨n3,hnl3,hn3,hg3⟩:=got h hc
 have u1:=fun wl li=>bin_ok wl li i.n f.vs[n2] f.vs[n3]
 have hne:f.vs≠[]:=by intro q;rw[q]at hnl;simp at hnl
 obtain⟨g1,g2,g3,g4,g5,g6⟩:=h.vars hne
 have hvv:vV f a=.mu a.1 a.2:=if_neg hne
 rw[hvv]at hsN
 have hcc':(dCs T.codes)[f.f]=c:=by have:=hcc;rw[List.getElem?_eq_getElem hfc]at this;exact Option.some.inj this
 have hki':(dNs c.ins)[k]=i:=by have:=hki;rw[List.getElem?_eq_getElem hkk]at this;exact Option.some.inj this
 have hset:∀w:Int,(ints f.vs).set n [.int .i64 w]=ints (f.vs.set n w):=fun w=>by simp[ints,List.map_set]
 have hli:(ints f.vs).length=f.vs.length:=by simp[ints]
 obtain⟨s3,l3,t3,r3⟩:=trap_ok (h.var hnl (binI i.n f.vs[n2] f.vs[n3]).1) (binI i.n f.vs[n2] f.vs[n3]).2
 have t0:=t3 lim
 unfold stV at t0
 refine⟨s3,I,{ trapM r (binI i.n f.vs[n2] f.vs[n3]).2 with l:={ nx f with vs:=f.vs.set n (binI i.n f.vs[n2] f.vs[n3]).1 }::L },?_,?_,rfl,r3.anyl _,?_⟩
 ·rw[l3];simp[stV,stN]
 ·refine call_run (sf:=s24) rfl rfl rfl ?_
  simp[s24,hP,cut,hF,hRl,hw,fRow,h.at_,hz2,W_draw0,noBoxes]
  rw[W_drawB]
  simp[boxOk,SOp.newBox,paste,mayWrite,AV.allPure,AV.isPure,ho,hsI,hvI,g1,g4,hn,hnl,hvv,hsN,hset,hli,t0,hC,hP,cut,hF,hRl,hvw,hlC,hNv,hNl,hNz,CD.cells,fRow,h.at_,hw1,sR,hfc,hcc',hkk,hki',ID.cells,W_draw0,noBoxes,hn2,hnl2,hn3,hnl3,u1]
 ·have:doI X { r with l:=nx f::L } f.vs i=gotM { r with l:=nx f::L } i.a (binI i.n (vAt f.vs i.b) (vAt f.vs i.c)):=by
   unfold doI
   rw[if_neg (by omega),if_neg (by omega),if_neg (by omega),if_pos ho]
  rw[this,hn2,hn3,hg2,hg3];exact eqv_got hn
theorem op6(h:At T lim L r I st f i a b R c k)(ho:i.op=6)(ha:inV f.vs.length i.a)(hS:r.s.length<1000000)(hb:inV f.vs.length i.b):Did T lim (doI X { r with l:=nx f::L } f.vs i) I st:=by
 obtain⟨hP,hC,hs,hvw,hlC,hNs,hNv,hNl,hNz,hsI,hvI,hw,hw1,hz2,gR,sR,hfc,hcc,hkk,hki,hsN⟩:=h.facts
 have hF:=h.hF
 have hRl:=h.Rl
 obtain⟨n,hnl,hn,_⟩:=got h ha
 obtain⟨n2,hnl2,hn2,hg2⟩:=got h hb
 have u1:=fun wl li=>load_ok wl li h.next hS f.vs[n2] i.c
 have hne:f.vs≠[]:=by intro q;rw[q]at hnl;simp at hnl
 obtain⟨g1,g2,g3,g4,g5,g6⟩:=h.vars hne
 have hvv:vV f a=.mu a.1 a.2:=if_neg hne
 rw[hvv]at hsN
 have hcc':(dCs T.codes)[f.f]=c:=by have:=hcc;rw[List.getElem?_eq_getElem hfc]at this;exact Option.some.inj this
 have hki':(dNs c.ins)[k]=i:=by have:=hki;rw[List.getElem?_eq_getElem hkk]at this;exact Option.some.inj this
 have hset:∀w:Int,(ints f.vs).set n [.int .i64 w]=ints (f.vs.set n w):=fun w=>by simp[ints,List.map_set]
 have hli:(ints f.vs).length=f.vs.length:=by simp[ints]
 obtain⟨s3,l3,t3,r3⟩:=trap_ok (h.var hnl (loadS r.s f.vs[n2] i.c).1) (loadS r.s f.vs[n2] i.c).2
 have t0:=t3 lim
 unfold stV at t0
 refine⟨s3,I,{ trapM r (loadS r.s f.vs[n2] i.c).2 with l:={ nx f with vs:=f.vs.set n (loadS r.s f.vs[n2] i.c).1 }::L },?_,?_,rfl,r3.anyl _,?_⟩
 ·rw[l3];simp[stV,stN]
 ·refine call_run (sf:=s24) rfl rfl rfl ?_
  simp[s24,hP,cut,hF,hRl,hw,fRow,h.at_,hz2,W_draw0,noBoxes]
  rw[W_drawB]
  simp[boxOk,SOp.newBox,paste,mayWrite,AV.allPure,AV.isPure,ho,hsI,hvI,g1,g4,hn,hnl,hvv,hsN,hset,hli,t0,hC,hP,cut,hF,hRl,hvw,hlC,hNv,hNl,hNz,CD.cells,fRow,h.at_,hw1,sR,hfc,hcc',hkk,hki',ID.cells,W_draw0,noBoxes,hn2,hnl2,u1]
 ·have:doI X { r with l:=nx f::L } f.vs i=gotM { r with l:=nx f::L } i.a (loadS r.s (vAt f.vs i.b) i.c):=by
   unfold doI
   rw[if_neg (by omega),if_neg (by omega),if_neg (by omega),if_neg (by omega),if_neg (by omega),if_pos ho]
  rw[this,hn2,hg2];exact eqv_got hn
theorem op8(h:At T lim L r I st f i a b R c k)(ho:i.op=8)(ha:inV f.vs.length i.a)(hS:r.s.length<1000000)(hb:inV f.vs.length i.b)(hc:inV f.vs.length i.c):Did T lim (doI X { r with l:=nx f::L } f.vs i) I st:=by
 obtain⟨hP,hC,hs,hvw,hlC,hNs,hNv,hNl,hNz,hsI,hvI,hw,hw1,hz2,gR,sR,hfc,hcc,hkk,hki,hsN⟩:=h.facts
 have hF:=h.hF
 have hRl:=h.Rl
 obtain⟨n,hnl,hn,_⟩:=got h ha
 obtain⟨n2,hnl2,hn2,hg2⟩:=got h hb
 obtain⟨n3,hnl3,hn3,hg3⟩:=got h hc
 have u1:=fun wl li=>load_ok wl li h.next hS f.vs[n2] f.vs[n3]
 have hne:f.vs≠[]:=by intro q;rw[q]at hnl;simp at hnl
 obtain⟨g1,g2,g3,g4,g5,g6⟩:=h.vars hne
 have hvv:vV f a=.mu a.1 a.2:=if_neg hne
 rw[hvv]at hsN
 have hcc':(dCs T.codes)[f.f]=c:=by have:=hcc;rw[List.getElem?_eq_getElem hfc]at this;exact Option.some.inj this
 have hki':(dNs c.ins)[k]=i:=by have:=hki;rw[List.getElem?_eq_getElem hkk]at this;exact Option.some.inj this
 have hset:∀w:Int,(ints f.vs).set n [.int .i64 w]=ints (f.vs.set n w):=fun w=>by simp[ints,List.map_set]
 have hli:(ints f.vs).length=f.vs.length:=by simp[ints]
 obtain⟨s3,l3,t3,r3⟩:=trap_ok (h.var hnl (loadS r.s f.vs[n2] f.vs[n3]).1) (loadS r.s f.vs[n2] f.vs[n3]).2
 have t0:=t3 lim
 unfold stV at t0
 refine⟨s3,I,{ trapM r (loadS r.s f.vs[n2] f.vs[n3]).2 with l:={ nx f with vs:=f.vs.set n (loadS r.s f.vs[n2] f.vs[n3]).1 }::L },?_,?_,rfl,r3.anyl _,?_⟩
 ·rw[l3];simp[stV,stN]
 ·refine call_run (sf:=s24) rfl rfl rfl ?_
  simp[s24,hP,cut,hF,hRl,hw,fRow,h.at_,hz2,W_draw0,noBoxes]
  rw[W_drawB]
  simp[boxOk,SOp.newBox,paste,mayWrite,AV.allPure,AV.isPure,ho,hsI,hvI,g1,g4,hn,hnl,hvv,hsN,hset,hli,t0,hC,hP,cut,hF,hRl,hvw,hlC,hNv,hNl,hNz,CD.cells,fRow,h.at_,hw1,sR,hfc,hcc',hkk,hki',ID.cells,W_draw0,noBoxes,hn2,hnl2,hn3,hnl3,u1]
 ·have:doI X { r with l:=nx f::L } f.vs i=gotM { r with l:=nx f::L } i.a (loadS r.s (vAt f.vs i.b) (vAt f.vs i.c)):=by
   unfold doI
   rw[if_neg (by omega),if_neg (by omega),if_neg (by omega),if_neg (by omega),if_neg (by omega),if_neg (by omega),if_neg (by omega),if_pos ho]
  rw[this,hn2,hn3,hg2,hg3];exact eqv_got hn
theorem op10(h:At T lim L r I st f i a b R c k)(ho:i.op=10)(ha:inV f.vs.length i.a)(hS:r.s.length<1000000)(hb:inV f.vs.length i.b):Did T lim (doI X { r with l:=nx f::L } f.vs i) I st:=by
 obtain⟨hP,hC,hs,hvw,hlC,hNs,hNv,hNl,hNz,hsI,hvI,hw,hw1,hz2,gR,sR,hfc,hcc,hkk,hki,hsN⟩:=h.facts
 have hF:=h.hF
 have hRl:=h.Rl
 obtain⟨n,hnl,hn,_⟩:=got h ha
 obtain⟨n2,hnl2,hn2,hg2⟩:=got h hb
 have u1:=fun wl li=>len_ok wl li h.next hS f.vs[n2]
 have hne:f.vs≠[]:=by intro q;rw[q]at hnl;simp at hnl
 obtain⟨g1,g2,g3,g4,g5,g6⟩:=h.vars hne
 have hvv:vV f a=.mu a.1 a.2:=if_neg hne
 rw[hvv]at hsN
 have hcc':(dCs T.codes)[f.f]=c:=by have:=hcc;rw[List.getElem?_eq_getElem hfc]at this;exact Option.some.inj this
 have hki':(dNs c.ins)[k]=i:=by have:=hki;rw[List.getElem?_eq_getElem hkk]at this;exact Option.some.inj this
 have hset:∀w:Int,(ints f.vs).set n [.int .i64 w]=ints (f.vs.set n w):=fun w=>by simp[ints,List.map_set]
 have hli:(ints f.vs).length=f.vs.length:=by simp[ints]
 obtain⟨s3,l3,t3,r3⟩:=trap_ok (h.var hnl (lenS r.s f.vs[n2]).1) (lenS r.s f.vs[n2]).2
 have t0:=t3 lim
 unfold stV at t0
 refine⟨s3,I,{ trapM r (lenS r.s f.vs[n2]).2 with l:={ nx f with vs:=f.vs.set n (lenS r.s f.vs[n2]).1 }::L },?_,?_,rfl,r3.anyl _,?_⟩
 ·rw[l3];simp[stV,stN]
 ·refine call_run (sf:=s24) rfl rfl rfl ?_
  simp[s24,hP,cut,hF,hRl,hw,fRow,h.at_,hz2,W_draw0,noBoxes]
  rw[W_drawB]
  simp[boxOk,SOp.newBox,paste,mayWrite,AV.allPure,AV.isPure,ho,hsI,hvI,g1,g4,hn,hnl,hvv,hsN,hset,hli,t0,hC,hP,cut,hF,hRl,hvw,hlC,hNv,hNl,hNz,CD.cells,fRow,h.at_,hw1,sR,hfc,hcc',hkk,hki',ID.cells,W_draw0,noBoxes,hn2,hnl2,u1]
 ·have:doI X { r with l:=nx f::L } f.vs i=gotM { r with l:=nx f::L } i.a (lenS r.s (vAt f.vs i.b)):=by
   unfold doI
   rw[if_neg (by omega),if_neg (by omega),if_neg (by omega),if_neg (by omega),if_neg (by omega),if_neg (by omega),if_neg (by omega),if_neg (by omega),if_neg (by omega),if_pos ho]
  rw[this,hn2,hg2];exact eqv_got hn
end E13
namespace E13
open Ax Go Code14z IrV Mach
variable {T:XD}{lim:Nat}{L:List Fr}{r:Ms}{I:Ids}{st st':Store}{f g:Fr}{i:ID}{X:MP}{a:Nat×Nat}{b:List (Nat×Nat)}{R:List (List AV)}{c:CD}{k:Nat}
theorem op7(h:At T lim L r I st f i a b R c k)(ho:i.op=7)(ha:inV f.vs.length i.a)(hS:r.s.length<1000000)(hb:inV f.vs.length i.b):Did T lim (doI X { r with l:=nx f::L } f.vs i) I st:=by
 obtain⟨hP,hC,hs,hvw,hlC,hNs,hNv,hNl,hNz,hsI,hvI,hw,hw1,hz2,gR,sR,hfc,hcc,hkk,hki,hsN⟩:=h.facts
 have hF:=h.hF
 have hRl:=h.Rl
 obtain⟨n,hnl,hn,hg1⟩:=got h ha
 obtain⟨n2,hnl2,hn2,hg2⟩:=got h hb
 have hne:f.vs≠[]:=by intro q;rw[q]at hnl;simp at hnl
 obtain⟨g1,g2,g3,g4,g5,g6⟩:=h.vars hne
 have hvv:vV f a=.mu a.1 a.2:=if_neg hne
 rw[hvv]at hsN
 have hcc':(dCs T.codes)[f.f]=c:=by have:=hcc;rw[List.getElem?_eq_getElem hfc]at this;exact Option.some.inj this
 have hki':(dNs c.ins)[k]=i:=by have:=hki;rw[List.getElem?_eq_getElem hkk]at this;exact Option.some.inj this
 have hset:∀w:Int,(ints f.vs).set n [.int .i64 w]=ints (f.vs.set n w):=fun w=>by simp[ints,List.map_set]
 have hli:(ints f.vs).length=f.vs.length:=by simp[ints]
 obtain⟨s2,l2,t2,r2⟩:=put_ok h.next hS f.vs[n] i.c f.vs[n2]
 obtain⟨s3,l3,t3,r3⟩:=trap_ok r2 (trapS r.s f.vs[n] i.c)
 have u1:=t2 lim
 have u2:=t3 lim
 refine⟨s3,I,{ trapM { r with s:=putS r.s f.vs[n] i.c f.vs[n2] } (trapS r.s f.vs[n] i.c) with l:=nx f::L },?_,?_,rfl,r3.anyl _,?_⟩
 ·rw[l3,l2];simp[stN]
 ·refine call_run (sf:=s24) rfl rfl rfl ?_
  simp[s24,hP,cut,hF,hRl,hw,fRow,h.at_,hz2,W_draw0,noBoxes]
  rw[W_drawB]
  simp[boxOk,SOp.newBox,paste,mayWrite,AV.allPure,AV.isPure,ho,hsI,hvI,g1,hn,hnl,hvv,hsN,hli,u1,u2,hC,hP,cut,hF,hRl,hvw,hlC,hNv,hNl,hNz,CD.cells,fRow,h.at_,hw1,sR,hfc,hcc',hkk,hki',ID.cells,W_draw0,noBoxes,hn2,hnl2]
 ·have:doI X { r with l:=nx f::L } f.vs i=trapM { r with l:=nx f::L,s:=putS r.s (vAt f.vs i.a) i.c (vAt f.vs i.b) } (trapS r.s (vAt f.vs i.a) i.c):=by
   unfold doI
   rw[if_neg (by omega),if_neg (by omega),if_neg (by omega),if_neg (by omega),if_neg (by omega),if_neg (by omega),if_pos ho]
  rw[this,hn,hg1,hn2,hg2]
  unfold trapM
  split<;>exact Eqv.refl _
theorem op9(h:At T lim L r I st f i a b R c k)(ho:i.op=9)(ha:inV f.vs.length i.a)(hS:r.s.length<1000000)(hb:inV f.vs.length i.b)(hc:inV f.vs.length i.c):Did T lim (doI X { r with l:=nx f::L } f.vs i) I st:=by
 obtain⟨hP,hC,hs,hvw,hlC,hNs,hNv,hNl,hNz,hsI,hvI,hw,hw1,hz2,gR,sR,hfc,hcc,hkk,hki,hsN⟩:=h.facts
 have hF:=h.hF
 have hRl:=h.Rl
 obtain⟨n,hnl,hn,hg1⟩:=got h ha
 obtain⟨n2,hnl2,hn2,hg2⟩:=got h hb
 obtain⟨n3,hnl3,hn3,hg3⟩:=got h hc
 have hne:f.vs≠[]:=by intro q;rw[q]at hnl;simp at hnl
 obtain⟨g1,g2,g3,g4,g5,g6⟩:=h.vars hne
 have hvv:vV f a=.mu a.1 a.2:=if_neg hne
 rw[hvv]at hsN
 have hcc':(dCs T.codes)[f.f]=c:=by have:=hcc;rw[List.getElem?_eq_getElem hfc]at this;exact Option.some.inj this
 have hki':(dNs c.ins)[k]=i:=by have:=hki;rw[List.getElem?_eq_getElem hkk]at this;exact Option.some.inj this
 have hset:∀w:Int,(ints f.vs).set n [.int .i64 w]=ints (f.vs.set n w):=fun w=>by simp[ints,List.map_set]
 have hli:(ints f.vs).length=f.vs.length:=by simp[ints]
 obtain⟨s2,l2,t2,r2⟩:=put_ok h.next hS f.vs[n] f.vs[n2] f.vs[n3]
 obtain⟨s3,l3,t3,r3⟩:=trap_ok r2 (trapS r.s f.vs[n] f.vs[n2])
 have u1:=t2 lim
 have u2:=t3 lim
 refine⟨s3,I,{ trapM { r with s:=putS r.s f.vs[n] f.vs[n2] f.vs[n3] } (trapS r.s f.vs[n] f.vs[n2]) with l:=nx f::L },?_,?_,rfl,r3.anyl _,?_⟩
 ·rw[l3,l2];simp[stN]
 ·refine call_run (sf:=s24) rfl rfl rfl ?_
  simp[s24,hP,cut,hF,hRl,hw,fRow,h.at_,hz2,W_draw0,noBoxes]
  rw[W_drawB]
  simp[boxOk,SOp.newBox,paste,mayWrite,AV.allPure,AV.isPure,ho,hsI,hvI,g1,hn,hnl,hvv,hsN,hli,u1,u2,hC,hP,cut,hF,hRl,hvw,hlC,hNv,hNl,hNz,CD.cells,fRow,h.at_,hw1,sR,hfc,hcc',hkk,hki',ID.cells,W_draw0,noBoxes,hn2,hnl2,hn3,hnl3]
 ·have:doI X { r with l:=nx f::L } f.vs i=trapM { r with l:=nx f::L,s:=putS r.s (vAt f.vs i.a) (vAt f.vs i.b) (vAt f.vs i.c) } (trapS r.s (vAt f.vs i.a) (vAt f.vs i.b)):=by
   unfold doI
   rw[if_neg (by omega),if_neg (by omega),if_neg (by omega),if_neg (by omega),if_neg (by omega),if_neg (by omega),if_neg (by omega),if_neg (by omega),if_pos ho]
  rw[this,hn,hg1,hn2,hn3,hg2,hg3]
  unfold trapM
  split<;>exact Eqv.refl _
end E13
namespace E13
open Ax Go Code14z IrV Mach
variable {T:XD}{lim:Nat}{L:List Fr}{r:Ms}{I:Ids}{st st':Store}{f g:Fr}{i:ID}{X:MP}{a:Nat×Nat}{b:List (Nat×Nat)}{R:List (List AV)}{c:CD}{k:Nat}
theorem op13(h:At T lim L r I st f i a b R c k)(ho:i.op=13)(hL:L.length<1000){cc:Nat}(hic:i.c=cc)(hc:cc<(dCs T.codes).length)(hvl:(dTs (dCs T.codes)[cc].vars).length<1000000)(hn:∀n∈dI i.args,inV f.vs.length n)
  (hlen:(dI i.args).length<=(dTs (dCs T.codes)[cc].vars).length)(hnv:nvOf X cc=(dTs (dCs T.codes)[cc].vars).length):Did T lim (doI X { r with l:=nx f::L } f.vs i) I st:=by
 obtain⟨hP,hC,hs,hvw,hlC,hNs,hNv,hNl,hNz,hsI,hvI,hw,hw1,hz2,gR,sR,hfc,hcc,hkk,hki,hsN⟩:=h.facts
 have hcm:=isCs_get hC c (List.mem_of_getElem? h.hc)
 obtain⟨hino,hia⟩:=isNs_get hcm.2 i (List.mem_of_getElem? h.ki)
 have hF:=h.hF
 have hRl:=h.Rl
 have hcc':(dCs T.codes)[f.f]=c:=by have:=hcc;rw[List.getElem?_eq_getElem hfc]at this;exact Option.some.inj this
 have hki':(dNs c.ins)[k]=i:=by have:=hki;rw[List.getElem?_eq_getElem hkk]at this;exact Option.some.inj this
 obtain⟨s2,I2,l2,t2,p2,r2⟩:=call_ok (X:=X) (f:=nx f) h.next h.x hL hia hino h.ab hic hc hvl hn hlen hnv
 have t0:=trap0 0 lim I.p s2
 have v1:=vV_view f a
 obtain⟨v2,v3⟩:=vV_cells f a
 have e:vV (nx f) a=vV f a:=rfl
 rw[e]at t2
 unfold ID.cells at t2
 rw[ho]at t2
 refine⟨s2,I2,callM X { r with l:=nx f::L } (nx f).vs i,?_,?_,p2,r2,?_⟩
 ·simpa [stN] using l2
 ·refine call_run (sf:=s24) rfl rfl rfl ?_
  simp[s24,hP,cut,hF,hRl,hw,fRow,h.at_,hz2,W_draw0,noBoxes]
  rw[W_drawB]
  simp[boxOk,SOp.newBox,paste,mayWrite,AV.allPure,AV.isPure,ho,hsI,hvI,hsN,t0,t2,hC,hP,cut,hF,hRl,hvw,hlC,hNv,hNl,hNz,CD.cells,fRow,h.at_,hw1,sR,hfc,hcc',hkk,hki',ID.cells,v1]
 ·have:doI X { r with l:=nx f::L } f.vs i=callM X { r with l:=nx f::L } (nx f).vs i:=by
   unfold doI
   rw[if_neg (by omega),if_neg (by omega),if_neg (by omega),if_neg (by omega),if_neg (by omega),if_neg (by omega),if_neg (by omega),if_neg (by omega),if_neg (by omega),if_neg (by omega),if_neg (by omega),if_neg (by omega),if_pos ho]
   rfl
  rw[this];exact Eqv.refl _
theorem op18(h:At T lim L r I st f i a b R c k)(ho:i.op=18)(ha:i.a = -1\/inV f.vs.length i.a)(hto:f.to = -1\/∀g l',L=g::l'->inV g.vs.length f.to):Did T lim (doI X { r with l:=nx f::L } f.vs i) I st:=by
 obtain⟨hP,hC,hs,hvw,hlC,hNs,hNv,hNl,hNz,hsI,hvI,hw,hw1,hz2,gR,sR,hfc,hcc,hkk,hki,hsN⟩:=h.facts
 have hF:=h.hF
 have hRl:=h.Rl
 have hcc':(dCs T.codes)[f.f]=c:=by have:=hcc;rw[List.getElem?_eq_getElem hfc]at this;exact Option.some.inj this
 have hki':(dNs c.ins)[k]=i:=by have:=hki;rw[List.getElem?_eq_getElem hkk]at this;exact Option.some.inj this
 have v1:=vV_view f a
 obtain⟨v2,v3⟩:=vV_cells f a
 have em:doI X { r with l:=nx f::L } f.vs i=leaveM { r with l:=nx f::L } (if i.a<0 then 0 else vAt f.vs i.a):=by
  unfold doI
  rw[if_neg (by omega),if_neg (by omega),if_neg (by omega),if_neg (by omega),if_neg (by omega),if_neg (by omega),if_neg (by omega),if_neg (by omega),if_neg (by omega),if_neg (by omega),if_neg (by omega),if_neg (by omega),if_neg (by omega),if_neg (by omega),if_neg (by omega),if_neg (by omega),if_neg (by omega),if_pos ho]
 rw[em]
 rcases ha with ha|ha
 ·have hz:i.a<0:=by omega
  rw[if_pos hz]
  obtain⟨s2,I2,l2,t2,p2,r2⟩:=leave_ok (f:=nx f) h.next h.hL 0 hto
  have t0:=trap0 0 lim I.p s2
  refine⟨s2,I2,leaveM { r with l:=nx f::L } 0,?_,?_,p2,r2,Eqv.refl _⟩
  ·simpa [stN] using l2
  ·refine call_run (sf:=s24) rfl rfl rfl ?_
   simp[s24,hP,cut,hF,hRl,hw,fRow,h.at_,hz2,W_draw0,noBoxes]
   rw[W_drawB]
   simp[boxOk,SOp.newBox,paste,mayWrite,AV.allPure,AV.isPure,ho,hsI,hvI,hsN,t0,t2,hC,hP,cut,hF,hRl,hvw,hlC,hNv,hNl,hNz,CD.cells,fRow,h.at_,hw1,sR,hfc,hcc',hkk,hki',ID.cells,v1,ha]
 ·obtain⟨n,hnl,hn,hg1⟩:=got h ha
  have hz:¬i.a<0:=by omega
  have hzn:((n:Int)<0)=False:=eq_false (by omega)
  rw[if_neg hz,hn,hg1]
  have hne:f.vs≠[]:=by intro q;rw[q]at hnl;simp at hnl
  obtain⟨g1,g2,g3,g4,g5,g6⟩:=h.vars hne
  have hvv:vV f a=.mu a.1 a.2:=if_neg hne
  rw[hvv]at hsN v1 v2 v3
  have hli:(ints f.vs).length=f.vs.length:=by simp[ints]
  obtain⟨s2,I2,l2,t2,p2,r2⟩:=leave_ok (f:=nx f) h.next h.hL f.vs[n] hto
  have t0:=trap0 0 lim I.p s2
  refine⟨s2,I2,leaveM { r with l:=nx f::L } f.vs[n],?_,?_,p2,r2,Eqv.refl _⟩
  ·simpa [stN] using l2
  ·refine call_run (sf:=s24) rfl rfl rfl ?_
   simp[s24,hP,cut,hF,hRl,hw,fRow,h.at_,hz2,W_draw0,noBoxes]
   rw[W_drawB]
   simp[boxOk,SOp.newBox,paste,mayWrite,AV.allPure,AV.isPure,ho,hsI,hvI,hsN,t0,t2,hC,hP,cut,hF,hRl,hvw,hlC,hNv,hNl,hNz,CD.cells,fRow,h.at_,hw1,sR,hfc,hcc',hkk,hki',ID.cells,hzn,hn,hnl,hvv,g1,hli]
end E13
namespace E13
open Ax Go Code14z IrV Mach
variable {T:XD}{lim:Nat}{L:List Fr}{r:Ms}{I:Ids}{st st':Store}{f g:Fr}{i:ID}{X:MP}{a:Nat×Nat}{b:List (Nat×Nat)}{R:List (List AV)}{c:CD}{k:Nat}
theorem At.jump(h:At T lim L r I st f i a b R c k)(n:Int):Rep T lim ({ nx f with at_:=n }::L) r I ((stN st I R f a).set I.f (.rows I.fv 4 (R++[[.int .i64 f.f,.int .i64 n,.int .i64 f.to,vV f a]]))):=by
 have:=h.next.place n h.nl
 have e:(fRows ({ nx f with at_:=n }::L) I.fl).reverse=R++[[.int .i64 f.f,.int .i64 n,.int .i64 f.to,vV f a]]:=by rw[h.ab,h.hR];simp[fRows];rfl
 rw[e]at this
 exact this
theorem op16(h:At T lim L r I st f i a b R c k)(ho:i.op=16):Did T lim (doI X { r with l:=nx f::L } f.vs i) I st:=by
 obtain⟨hP,hC,hs,hvw,hlC,hNs,hNv,hNl,hNz,hsI,hvI,hw,hw1,hz2,gR,sR,hfc,hcc,hkk,hki,hsN⟩:=h.facts
 have hF:=h.hF
 have hRl:=h.Rl
 have hcc':(dCs T.codes)[f.f]=c:=by have:=hcc;rw[List.getElem?_eq_getElem hfc]at this;exact Option.some.inj this
 have hki':(dNs c.ins)[k]=i:=by have:=hki;rw[List.getElem?_eq_getElem hkk]at this;exact Option.some.inj this
 have v1:=vV_view f a
 obtain⟨v2,v3⟩:=vV_cells f a
 have em:doI X { r with l:=nx f::L } f.vs i={ r with l:={ nx f with at_:=i.n }::L }:=by
  unfold doI
  rw[if_neg (by omega),if_neg (by omega),if_neg (by omega),if_neg (by omega),if_neg (by omega),if_neg (by omega),if_neg (by omega),if_neg (by omega),if_neg (by omega),if_neg (by omega),if_neg (by omega),if_neg (by omega),if_neg (by omega),if_neg (by omega),if_neg (by omega),if_pos ho]
  rfl
 rw[em]
 have gN:(stN st I R f a)[I.f]?=some (.rows I.fv 4 (R++[[.int .i64 f.f,.int .i64 ((k:Int)+1),.int .i64 f.to,vV f a]])):=by
  rw[<-hsN];exact List.getElem?_set_self (lt_of hF)
 have hlf:=h.rep.low I.f (by rw[h.rep.lf h.nl];decide)
 have t0:=trap0
 have hset:True:=trivial
 refine⟨(stN st I R f a).set I.f (.rows I.fv 4 (R++[[.int .i64 f.f,.int .i64 i.n,.int .i64 f.to,vV f a]])),I,{ r with l:={ nx f with at_:=i.n }::L },?_,?_,rfl,(h.jump i.n).anyl _,Eqv.refl _⟩
 ·simp[stN]
 ·refine call_run (sf:=s24) rfl rfl rfl ?_
  simp[s24,hP,cut,hF,hRl,hw,fRow,h.at_,hz2,W_draw0,noBoxes]
  rw[W_drawB]
  simp[boxOk,SOp.newBox,paste,mayWrite,AV.allPure,AV.isPure,ho,hsI,hvI,hsN,t0,gN,hlf,hC,hP,cut,hF,hRl,hvw,hlC,hNv,hNl,hNz,CD.cells,fRow,h.at_,hw1,sR,hfc,hcc',hkk,hki',ID.cells,v1]
theorem op17(h:At T lim L r I st f i a b R c k)(ho:i.op=17)(ha:inV f.vs.length i.a):Did T lim (doI X { r with l:=nx f::L } f.vs i) I st:=by
 obtain⟨hP,hC,hs,hvw,hlC,hNs,hNv,hNl,hNz,hsI,hvI,hw,hw1,hz2,gR,sR,hfc,hcc,hkk,hki,hsN⟩:=h.facts
 have hF:=h.hF
 have hRl:=h.Rl
 have hcc':(dCs T.codes)[f.f]=c:=by have:=hcc;rw[List.getElem?_eq_getElem hfc]at this;exact Option.some.inj this
 have hki':(dNs c.ins)[k]=i:=by have:=hki;rw[List.getElem?_eq_getElem hkk]at this;exact Option.some.inj this
 obtain⟨n,hnl,hn,hg1⟩:=got h ha
 have hne:f.vs≠[]:=by intro q;rw[q]at hnl;simp at hnl
 obtain⟨g1,g2,g3,g4,g5,g6⟩:=h.vars hne
 have hvv:vV f a=.mu a.1 a.2:=if_neg hne
 have hli:(ints f.vs).length=f.vs.length:=by simp[ints]
 obtain⟨q,hq⟩:∃q,q=(if f.vs[n]≠0 then i.n else i.c):=⟨_,rfl⟩
 have em:doI X { r with l:=nx f::L } f.vs i={ r with l:={ nx f with at_:=q }::L }:=by
  unfold doI
  rw[if_neg (by omega),if_neg (by omega),if_neg (by omega),if_neg (by omega),if_neg (by omega),if_neg (by omega),if_neg (by omega),if_neg (by omega),if_neg (by omega),if_neg (by omega),if_neg (by omega),if_neg (by omega),if_neg (by omega),if_neg (by omega),if_neg (by omega),if_neg (by omega),if_pos ho,hn,hg1,hq]
  rfl
 rw[em]
 have hj:=(h.jump q).anyl ({ nx f with at_:=q }::L)
 have gN:(stN st I R f a)[I.f]?=some (.rows I.fv 4 (R++[[.int .i64 f.f,.int .i64 ((k:Int)+1),.int .i64 f.to,vV f a]])):=by
  rw[<-hsN];exact List.getElem?_set_self (lt_of hF)
 rw[hvv]at hsN gN hj
 have hlf:=h.rep.low I.f (by rw[h.rep.lf h.nl];decide)
 have t0:=trap0
 have gy:∀y,((stN st I R f a).set I.f y)[I.f]?=some y:=fun y=>List.getElem?_set_self (lt_of gN)
 have ga:∀y,((stN st I R f a).set I.f y)[a.1]?=some (.rows a.2 1 (ints f.vs)):=fun y=>by rw[List.getElem?_set_ne g5.symm];exact g1
 have hss:∀y z,((stN st I R f a).set I.f y).set I.f z=(stN st I R f a).set I.f z:=fun y z=>List.set_set ..
 refine⟨_,I,{ r with l:={ nx f with at_:=q }::L },?_,?_,rfl,hj,Eqv.refl _⟩
 ·simp[stN]
 ·refine call_run (sf:=s24) rfl rfl rfl ?_
  simp[s24,hP,cut,hF,hRl,hw,fRow,h.at_,hz2,W_draw0,noBoxes]
  rw[W_drawB]
  by_cases z:f.vs[n]=0
  ·rw[if_neg (by simpa using z)]at hq
   simp[boxOk,SOp.newBox,paste,mayWrite,AV.allPure,AV.isPure,ho,hsI,hvI,hsN,t0,gN,ga,hlf,hn,hnl,hvv,hli,z,hq,hC,hP,cut,hF,hRl,hvw,hlC,hNv,hNl,hNz,CD.cells,fRow,h.at_,hw1,sR,hfc,hcc',hkk,hki',ID.cells]
  ·rw[if_pos z]at hq
   simp[boxOk,SOp.newBox,paste,mayWrite,AV.allPure,AV.isPure,ho,hsI,hvI,hsN,t0,gN,gy,ga,hss,hlf,hn,hnl,hvv,hli,z,hq,hC,hP,cut,hF,hRl,hvw,hlC,hNv,hNl,hNz,CD.cells,fRow,h.at_,hw1,sR,hfc,hcc',hkk,hki',ID.cells]
end E13
namespace E13
open Ax Go Code14z IrV Mach
variable {T:XD}{lim:Nat}{L:List Fr}{r:Ms}{I:Ids}{st st':Store}{f g:Fr}{i:ID}{X:MP}{a:Nat×Nat}{b:List (Nat×Nat)}{R:List (List AV)}{c:CD}{k:Nat}
theorem op19(h:At T lim L r I st f i a b R c k)(ho:i.op=19)(ha:inV f.vs.length i.a)(hb:inV r.g.length i.n):Did T lim (doI X { r with l:=nx f::L } f.vs i) I st:=by
 obtain⟨hP,hC,hs,hvw,hlC,hNs,hNv,hNl,hNz,hsI,hvI,hw,hw1,hz2,gR,sR,hfc,hcc,hkk,hki,hsN⟩:=h.facts
 have hF:=h.hF
 have hRl:=h.Rl
 obtain⟨n,hnl,hn,_⟩:=got h ha
 obtain⟨j,hj⟩:∃j:Nat,i.n=j:=⟨i.n.toNat,by have:=hb.1;omega⟩
 have hjl:j<r.g.length:=by have:=hb.2;omega
 have hG:st[I.g]?=some (.rows 0 1 (ints r.g)):=h.rep.G
 have hgf:I.g≠I.f:=fun q=>by
  have h1:=h.rep.lf h.nl
  rw[<-q,h.rep.lg]at h1
  cases h1
 have hpf:I.p≠I.f:=fun q=>by
  have h1:=h.rep.lf h.nl
  rw[<-q,h.rep.lp]at h1
  cases h1
 have hPN:(stN st I R f a)[I.p]?=st[I.p]?:=by unfold stN;exact List.getElem?_set_ne hpf.symm
 rw[hP]at hPN
 have hGN:(stN st I R f a)[I.g]?=some (.rows 0 1 (ints r.g)):=by unfold stN;rw[List.getElem?_set_ne hgf.symm];exact hG
 have hgi:(ints r.g)[j]?=some [.int .i64 r.g[j]]:=by simp[ints,hjl]
 have hgl:(ints r.g).length=r.g.length:=by simp[ints]
 have hga:vAt r.g i.n=r.g[j]:=by unfold vAt;rw[hj,Int.toNat_natCast,List.getD_eq_getElem?_getD,List.getElem?_eq_getElem hjl];rfl
 have hne:f.vs≠[]:=by intro q;rw[q]at hnl;simp at hnl
 obtain⟨g1,g2,g3,g4,g5,g6⟩:=h.vars hne
 have hvv:vV f a=.mu a.1 a.2:=if_neg hne
 rw[hvv]at hsN
 have hcc':(dCs T.codes)[f.f]=c:=by have:=hcc;rw[List.getElem?_eq_getElem hfc]at this;exact Option.some.inj this
 have hki':(dNs c.ins)[k]=i:=by have:=hki;rw[List.getElem?_eq_getElem hkk]at this;exact Option.some.inj this
 have hset:∀w:Int,ints (f.vs.set n w)=(ints f.vs).set n [.int .i64 w]:=fun w=>by simp[ints,List.map_set]
 have hli:(ints f.vs).length=f.vs.length:=by simp[ints]
 have t0:=trap0
 refine⟨stV (stN st I R f a) a (f.vs.set n r.g[j]),I,{ r with l:={ nx f with vs:=f.vs.set n r.g[j] }::L },?_,?_,rfl,(h.var hnl _).anyl _,?_⟩
 ·simp[stV,stN]
 ·refine call_run (sf:=s24) rfl rfl rfl ?_
  simp[s24,hP,cut,hF,hRl,hw,fRow,h.at_,hz2,W_draw0,noBoxes]
  rw[W_drawB]
  simp[boxOk,SOp.newBox,paste,mayWrite,AV.allPure,AV.isPure,ho,hsI,hvI,g1,g4,hn,hnl,hvv,hsN,hset,hli,t0,stV,hC,hP,cut,hF,hRl,hvw,hlC,hNv,hNl,hNz,CD.cells,fRow,h.at_,hw1,sR,hfc,hcc',hkk,hki',ID.cells,W_draw0,noBoxes,hPN,hj,hjl,hGN,hgl]
 ·have:doI X { r with l:=nx f::L } f.vs i={ r with l:={ nx f with vs:=f.vs.set n r.g[j] }::L }:=by
   unfold doI
   rw[if_neg (by omega),if_neg (by omega),if_neg (by omega),if_neg (by omega),if_neg (by omega),if_neg (by omega),if_neg (by omega),if_neg (by omega),if_neg (by omega),if_neg (by omega),if_neg (by omega),if_neg (by omega),if_neg (by omega),if_neg (by omega),if_neg (by omega),if_neg (by omega),if_neg (by omega),if_neg (by omega),if_pos ho]
   show setM _ _ (vAt r.g i.n)=_
   unfold setM
   rw[hn,hga];rfl
  rw[this];exact Eqv.refl _
end E13
namespace E13
open Ax Go Code14z IrV Mach
variable {T:XD}{lim:Nat}{L:List Fr}{r:Ms}{I:Ids}{st st':Store}{f g:Fr}{i:ID}{X:MP}{a:Nat×Nat}{b:List (Nat×Nat)}{R:List (List AV)}{c:CD}{k:Nat}
theorem op20(h:At T lim L r I st f i a b R c k)(ho:i.op=20)(ha:inV f.vs.length i.a)(hb:inV r.g.length i.n):Did T lim (doI X { r with l:=nx f::L } f.vs i) I st:=by
 obtain⟨hP,hC,hs,hvw,hlC,hNs,hNv,hNl,hNz,hsI,hvI,hw,hw1,hz2,gR,sR,hfc,hcc,hkk,hki,hsN⟩:=h.facts
 have hF:=h.hF
 have hRl:=h.Rl
 obtain⟨n,hnl,hn,hg1⟩:=got h ha
 obtain⟨j,hj⟩:∃j:Nat,i.n=j:=⟨i.n.toNat,by have:=hb.1;omega⟩
 have hjl:j<r.g.length:=by have:=hb.2;omega
 have hG:st[I.g]?=some (.rows 0 1 (ints r.g)):=h.rep.G
 have hgf:I.g≠I.f:=fun q=>by
  have h1:=h.rep.lf h.nl
  rw[<-q,h.rep.lg]at h1
  cases h1
 have hpf:I.p≠I.f:=fun q=>by
  have h1:=h.rep.lf h.nl
  rw[<-q,h.rep.lp]at h1
  cases h1
 have hPN:(stN st I R f a)[I.p]?=st[I.p]?:=by unfold stN;exact List.getElem?_set_ne hpf.symm
 rw[hP]at hPN
 have hGN:(stN st I R f a)[I.g]?=some (.rows 0 1 (ints r.g)):=by unfold stN;rw[List.getElem?_set_ne hgf.symm];exact hG
 have hgi:(ints r.g)[j]?=some [.int .i64 r.g[j]]:=by simp[ints,hjl]
 have hgl:(ints r.g).length=r.g.length:=by simp[ints]
 have hga:vAt r.g i.n=r.g[j]:=by unfold vAt;rw[hj,Int.toNat_natCast,List.getD_eq_getElem?_getD,List.getElem?_eq_getElem hjl];rfl
 have hne:f.vs≠[]:=by intro q;rw[q]at hnl;simp at hnl
 obtain⟨g1,g2,g3,g4,g5,g6⟩:=h.vars hne
 have hvv:vV f a=.mu a.1 a.2:=if_neg hne
 rw[hvv]at hsN
 have hcc':(dCs T.codes)[f.f]=c:=by have:=hcc;rw[List.getElem?_eq_getElem hfc]at this;exact Option.some.inj this
 have hki':(dNs c.ins)[k]=i:=by have:=hki;rw[List.getElem?_eq_getElem hkk]at this;exact Option.some.inj this
 have hset:∀w:Int,(ints r.g).set j [.int .i64 w]=ints (r.g.set j w):=fun w=>by simp[ints,List.map_set]
 have hli:(ints f.vs).length=f.vs.length:=by simp[ints]
 have t0:=trap0
 have hlg:=h.rep.low I.g (by rw[h.rep.lg];decide)
 have hR:=(h.next.glob (r.g.set j f.vs[n])).anyl (nx f::L)
 refine⟨_,I,{ r with g:=r.g.set j f.vs[n],l:=nx f::L },?_,?_,rfl,hR,?_⟩
 ·simp[stN]
 ·refine call_run (sf:=s24) rfl rfl rfl ?_
  simp[s24,hP,cut,hF,hRl,hw,fRow,h.at_,hz2,W_draw0,noBoxes]
  rw[W_drawB]
  simp[boxOk,SOp.newBox,paste,mayWrite,AV.allPure,AV.isPure,ho,hsI,hvI,g1,hn,hnl,hvv,hsN,hset,hli,t0,hlg,hC,hP,cut,hF,hRl,hvw,hlC,hNv,hNl,hNz,CD.cells,fRow,h.at_,hw1,sR,hfc,hcc',hkk,hki',ID.cells,W_draw0,noBoxes,hPN,hj,hjl,hGN,hgl]
 ·have:doI X { r with l:=nx f::L } f.vs i={ r with g:=r.g.set j f.vs[n],l:=nx f::L }:=by
   unfold doI
   rw[if_neg (by omega),if_neg (by omega),if_neg (by omega),if_neg (by omega),if_neg (by omega),if_neg (by omega),if_neg (by omega),if_neg (by omega),if_neg (by omega),if_neg (by omega),if_neg (by omega),if_neg (by omega),if_neg (by omega),if_neg (by omega),if_neg (by omega),if_neg (by omega),if_neg (by omega),if_neg (by omega),if_neg (by omega),if_pos ho,hn,hg1,hj]
   rfl
  rw[this];exact Eqv.refl _
end E13
