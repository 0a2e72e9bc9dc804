/-
  Calls.
-/
import Derived.Test.YtgblgbgjmgjfkaaGreatU

set_option maxRecDepth 100000
set_option maxHeartbeats 4000000
namespace E14
open Ax Go Code14z IrV Mach
variable {x:XD}{cl:AV}{lim:Nat}{m:Ms}{I:Ids}{st st':Store}{f:Fr}{l:List Fr}{i:ID}
theorem each_ok(wl li:Nat)(h:Rep x cl lim m I st)(e:m.l=f::l)(hd:m.l.length<=1000){a:AV}(ha:isI a=true)(hno:notOwn a=true)(hn:∀n∈dI a,inV f.vs.length n)(hl:(dI a).length<1000000) :
  (orcL S).call wl li 118 [a,.fn 108 [.ptr I.p 0 0 0] []] st=some (mkL 1 (ints ((dI a).map (vAt f.vs))),st):=by
 have hs:=isSl_I ha
 have hv:=view_notOwn hno hs
 have hrl:=rowsL_I ha
 refine call_run (sf:=s118) rfl rfl rfl ?_
 simp[s118,hs,hv,hrl]
 refine W_loopI s118_l0.eq_1 (fun k:Nat=>⟨[(1,.val (.fn 108 [.ptr I.p 0 0 0] [])),(5,.val (mkL 1 (ints (((dI a).map (vAt f.vs)).take k)))),(8,.val a),(9,.val (.int .i64 (dI a).length)),(10,.val (.int .i64 k))],[],st⟩)
  (fun k=>k<=(dI a).length) (fun k=>(dI a).length-k) 0 (by simp[mkL,ints]) (by simp) ?_
 intro k hk ih
 by_cases hlt:k<(dI a).length
 ·have hw:IntKind.i64.wrap ((k:Int)+1)=((k+1:Nat):Int):=by rw[wrap64]<;>omega
  have v1:=fun wl li=>v_ok wl li h e hd (dI a)[k] (hn _ (List.getElem_mem hlt))
  have ht:((dI a).map (vAt f.vs)).take (k+1)=((dI a).map (vAt f.vs)).take k++[vAt f.vs (dI a)[k]]:=by
   rw[List.take_succ_eq_append_getElem (by simpa using hlt)];simp
  have hap:appV 1 8 (mkL 1 (ints (((dI a).map (vAt f.vs)).take k))) [[.int .i64 (vAt f.vs (dI a)[k])]]=some (mkL 1 (ints (((dI a).map (vAt f.vs)).take (k+1)))):=by
   rw[appV_mk (by rfl) (by simp[room];omega),ht]
   simp[ints]
  have hz:=isSz_I ha
  simp[hz,hv,hrl,hlt,v1,hap,hw]
  exact ih (k+1) (by omega) (by omega)
 ·have hkl:k=(dI a).length:=by omega
  have ht:((dI a).map (vAt f.vs)).take k=(dI a).map (vAt f.vs):=List.take_of_length_le (by simp;omega)
  rw[ht]
  simp[hlt]
theorem Rep.push(h:Rep x cl lim m I st){a b:Nat}{g:Fr}(k:∀j,j<st.length->j≠I.p->j≠I.fq->st'[j]?=st[j]?)
  (hp:st'[I.p]?=some (.rows 0 15 [mRow x cl I.s I.iv I.g (.mu I.fq (I.fv+1)) I.mp m.e m.code (if m.out=[] then .nilSl else .mu I.o I.ov) m.steps]))
  (hf:st'[I.fq]?=some (.rows (I.fv+1) 1 ((I.fl.reverse.map fun f=>[AV.ptr f.1 0 0 0])++[[.ptr b 0 0 0]])))
  (ha:st.length<=a) (hb:st.length<=b) (hab:a≠b) (h1:st'[b]?=some (.rows 0 4 [fRow g a])) (h2:st'[a]?=some (.rows 0 1 (ints g.vs))) :
  Rep x cl lim { m with l:=g::m.l } { I with fv:=I.fv+1,fl:=(b,a)::I.fl,lab:=fun j=>if j=a\/j=b then .fr else I.lab j } st':=by
 have B:=h.lts
 have lb:∀j,j<st.length->(if j=a\/j=b then Lb.fr else I.lab j)=I.lab j:=fun j hj=>if_neg (by omega)
 have k2:∀j,j<st.length->I.lab j≠.p->I.lab j≠.fs->st'[j]?=st[j]?:=fun j hj n1 n2=>k j hj (fun q=>n1 (by rw[q];exact h.lp)) (fun q=>n2 (by rw[q];exact h.lf))
 have hle:lim<=st.length:=by
  have:=h.low I.p (by rw[h.lp];decide)
  have:=B.p
  omega
 refine⟨hp,h.iv,h.S.keep (k2 _ B.s (by rw[h.ls];decide) (by rw[h.ls];decide)) (fun e=>k2 _ (B.q e) (by rw[h.lq e];decide) (by rw[h.lq e];decide)) (fun i hi=>k2 i (B.ids i hi) (by rw[h.li i hi];decide) (by rw[h.li i hi];decide)),?_,?_,
  ⟨h1,h2,h.FR.keep fun i hi=>k2 i (B.fr i hi) (by rw[h.lr i hi];decide) (by rw[h.lr i hi];decide)⟩,fun e=>?_,?_,(lb _ B.p).trans h.lp,(lb _ B.g).trans h.lg,(lb _ B.fq).trans h.lf,fun e=>(lb _ (B.o e)).trans (h.lo e),(lb _ B.mp).trans h.lm,(lb _ B.s).trans h.ls,
  fun e=>(lb _ (B.q e)).trans (h.lq e),fun j hj=>(lb _ (B.ids j hj)).trans (h.li j hj),fun j hj=>?_,?_,fun j hj=>?_⟩
 ·exact(k2 _ B.g (by rw[h.lg];decide) (by rw[h.lg];decide)).trans h.G
 ·simpa using hf
 ·exact(k2 _ (B.o e) (by rw[h.lo e];decide) (by rw[h.lo e];decide)).trans (h.O e)
 ·exact(k2 _ B.mp (by rw[h.lm];decide) (by rw[h.lm];decide)).trans h.M
 ·simp only[idsF,List.flatMap_cons,List.cons_append,List.nil_append,List.mem_cons]at hj
  rcases hj with rfl|rfl|hj
  ·simp
  ·simp
  ·exact(lb _ (B.fr j hj)).trans (h.lr j hj)
 ·simp only[idsF,List.flatMap_cons,List.cons_append,List.nil_append,List.nodup_cons,List.mem_cons,not_or]
  exact⟨⟨fun q=>hab q.symm,fun q=>by have:=B.fr b q;omega⟩,fun q=>by have:=B.fr a q;omega,h.nd⟩
 ·simp only at hj
  by_cases q:j=a\/j=b
  ·omega
  ·rw[if_neg q]at hj;exact h.low j hj
theorem Rep.pop(h:Rep x cl lim m I st)(e:m.l=f::l){c:Nat×Nat}{fl:List (Nat×Nat)}(hc:I.fl=c::fl)(k:∀j,j≠I.p->j≠I.fq->st'[j]?=st[j]?)
  (hp:st'[I.p]?=some (.rows 0 15 [mRow x cl I.s I.iv I.g (.mu I.fq (I.fv+1)) I.mp m.e m.code (if m.out=[] then .nilSl else .mu I.o I.ov) m.steps]))
  (hf:st'[I.fq]?=some (.rows (I.fv+1) 1 (fl.reverse.map fun f=>[AV.ptr f.1 0 0 0]))) :
  Rep x cl lim { m with l:=l } { I with fv:=I.fv+1,fl:=fl } st':=by
 have k2:∀j,I.lab j≠.p->I.lab j≠.fs->st'[j]?=st[j]?:=fun j n1 n2=>k j (fun q=>n1 (by rw[q];exact h.lp)) (fun q=>n2 (by rw[q];exact h.lf))
 have hs:∀j∈idsF fl,j∈idsF I.fl:=fun j hj=>by rw[hc];simp only[idsF,List.flatMap_cons,List.mem_append];exact .inr hj
 have hFR:=h.FR
 have hnd:=h.nd
 rw[e,hc]at hFR
 rw[hc]at hnd
 simp only[idsF,List.flatMap_cons,List.cons_append,List.nil_append,List.nodup_cons]at hnd
 refine⟨hp,h.iv,h.S.keep (k2 _ (by rw[h.ls];decide) (by rw[h.ls];decide)) (fun e=>k2 _ (by rw[h.lq e];decide) (by rw[h.lq e];decide)) (fun i hi=>k2 i (by rw[h.li i hi];decide) (by rw[h.li i hi];decide)),?_,hf,
  hFR.2.2.keep fun i hi=>k2 i (by rw[h.lr i (hs i hi)];decide) (by rw[h.lr i (hs i hi)];decide),fun e=>?_,?_,h.lp,h.lg,h.lf,h.lo,h.lm,h.ls,h.lq,h.li,fun j hj=>h.lr j (hs j hj),hnd.2.2,h.low⟩
 ·exact(k2 _ (by rw[h.lg];decide) (by rw[h.lg];decide)).trans h.G
 ·exact(k2 _ (by rw[h.lo e];decide) (by rw[h.lo e];decide)).trans (h.O e)
 ·exact(k2 _ (by rw[h.lm];decide) (by rw[h.lm];decide)).trans h.M
theorem Rep.printed(h:Rep x cl lim m I st){o ov:Nat}{out:List Int}(hne:out≠[])(hlo:(m.out≠[]/\o=I.o)\/st.length<=o)(k:∀j,j<st.length->j≠I.p->(m.out≠[]->j≠I.o)->st'[j]?=st[j]?)
  (hp:st'[I.p]?=some (.rows 0 15 [mRow x cl I.s I.iv I.g (.mu I.fq I.fv) I.mp m.e m.code (.mu o ov) m.steps]))(ho:st'[o]?=some (.rows ov 1 (ints out))) :
  Rep x cl lim { m with out:=out } { I with o:=o,ov:=ov,lab:=fun j=>if j=o then .o else I.lab j } st':=by
 have B:=h.lts
 have lb:∀j,j<st.length->(m.out≠[]->I.lab j≠.o)->(if j=o then Lb.o else I.lab j)=I.lab j:=fun j hj hn=>by
  by_cases q:j=o
  ·rcases hlo with⟨c,d⟩|d
   ·exact absurd (by rw[q,d];exact h.lo c) (hn c)
   ·omega
  ·exact if_neg q
 have k2:∀j,j<st.length->I.lab j≠.p->I.lab j≠.o->st'[j]?=st[j]?:=fun j hj n1 n2=>k j hj (fun q=>n1 (by rw[q];exact h.lp)) (fun c q=>n2 (by rw[q];exact h.lo c))
 have hle:lim<=st.length:=by
  have:=h.low I.p (by rw[h.lp];decide)
  have:=B.p
  omega
 refine⟨?_,h.iv,h.S.keep (k2 _ B.s (by rw[h.ls];decide) (by rw[h.ls];decide)) (fun e=>k2 _ (B.q e) (by rw[h.lq e];decide) (by rw[h.lq e];decide)) (fun i hi=>k2 i (B.ids i hi) (by rw[h.li i hi];decide) (by rw[h.li i hi];decide)),?_,?_,
  h.FR.keep fun i hi=>k2 i (B.fr i hi) (by rw[h.lr i hi];decide) (by rw[h.lr i hi];decide),fun _=>ho,?_,(lb _ B.p fun _=>by rw[h.lp];decide).trans h.lp,(lb _ B.g fun _=>by rw[h.lg];decide).trans h.lg,(lb _ B.fq fun _=>by rw[h.lf];decide).trans h.lf,fun _=>if_pos rfl,
  (lb _ B.mp fun _=>by rw[h.lm];decide).trans h.lm,(lb _ B.s fun _=>by rw[h.ls];decide).trans h.ls,fun e=>(lb _ (B.q e) fun _=>by rw[h.lq e];decide).trans (h.lq e),fun j hj=>(lb _ (B.ids j hj) fun _=>by rw[h.li j hj];decide).trans (h.li j hj),
  fun j hj=>(lb _ (B.fr j hj) fun _=>by rw[h.lr j hj];decide).trans (h.lr j hj),h.nd,fun j hj=>?_⟩
 ·rw[if_neg hne];exact hp
 ·exact(k2 _ B.g (by rw[h.lg];decide) (by rw[h.lg];decide)).trans h.G
 ·exact(k2 _ B.fq (by rw[h.lf];decide) (by rw[h.lf];decide)).trans h.F
 ·exact(k2 _ B.mp (by rw[h.lm];decide) (by rw[h.lm];decide)).trans h.M
 ·simp only at hj
  by_cases q:j=o
  ·rcases hlo with⟨c,d⟩|d
   ·rw[q,d];exact h.low _ (by rw[h.lo c];decide)
   ·omega
  ·rw[if_neg q]at hj;exact h.low j hj
end E14
namespace E14
open Ax Go Code14z IrV Mach
variable {x:XD}{cl:AV}{lim:Nat}{m:Ms}{I:Ids}{st st':Store}{f:Fr}{l:List Fr}{i:ID}
theorem enter_ok(li:Nat)(hx:x.ok)(h:Rep x cl lim m I st){c:Nat}(hc:c<(dCs x.codes).length)(hv:(dTs (dCs x.codes)[c].vars).length<1000000)(to:Int) :
  (orcL S).call 0 li 21 [.ptr I.p 0 0 0,.int .i64 c,.int .i64 to] st =
   some (.ptr (st.length+1) 0 0 0,st++[.rows 0 1 (ints (List.replicate (dTs (dCs x.codes)[c].vars).length 0)),.rows 0 4 [fRow ⟨c,0,to,[]⟩ st.length]]):=by
 have hC:=hx.codes
 have hs:=isSl_C hC
 have hvw:=isCs_vw hC
 have hl:=rowsL_C hC
 have hcm:=isCs_get hC _ (List.getElem_mem hc)
 have hTs:=isSl_T hcm.1
 have hTv:=isTs_vw hcm.1
 have hTl:=rowsL_T hcm.1
 have hP:=h.P
 have hr:((dTs (dCs x.codes)[c].vars).length:Int)*8<=room:=by unfold room;omega
 have hint:List.replicate (dTs (dCs x.codes)[c].vars).length [AV.int .i64 0]=ints (List.replicate (dTs (dCs x.codes)[c].vars).length 0):=by simp[ints]
 refine call_run (sf:=s21) rfl rfl rfl ?_
 simp[s21,hP,mRow,cut,hC,hvw,hl,hc,CD.cells,hTs,hTv,hTl,hr,hint,fRow]
theorem a_litP{wl lim a:Nat}{st:Store}{bx:Boxes}:act0 wl lim (.litM 1 1 [.nilPtr] [0]) [.val (.ptr a 0 0 0)] st bx=some (.val (.mu st.length 0),st++[.rows 0 1 [[.ptr a 0 0 0]]],bx):=rfl
theorem a_appP{lim a b q v:Nat}{old:List (List AV)}{st:Store}{bx:Boxes}(h:st[b]?=some (.rows 0 1 [[.ptr a 0 0 0]]))(h2:st[q]?=some (.rows v 1 old))(hr:(old.length+1)*8<=room)(hl:lim<=q) :
  act0 0 lim (.appendM 1 8) [.val (.mu q v),.val (.mu b 0)] st bx=some (.val (.mu q (v+1)),st.set q (.rows (v+1) 1 (old++[[.ptr a 0 0 0]])),bx):=by
 simp[act0,appM,bringsOf,rowsOf,h,h2,fits,AV.viewL,AV.view,hr,hl]
theorem a_copyI{lim id v:Nat}{old new:List Int}{st:Store}{bx:Boxes}(h:st[id]?=some (.rows v 1 (ints old)))(hn:new.length<=old.length) :
  act0 0 lim (.copy 1) [.val (.mu id v),.val (mkL 1 (ints new))] st bx=some (.val (.int .i64 new.length),st.set id (.rows v 1 (ints (new++old.drop new.length))),bx):=by
 have hf:fits 1 (ints new)=true:=by simp[fits,ints]
 have hp:(ints new).all AV.allPure=true:=by simp[ints,AV.allPure,AV.isPure]
 have hb:bringsOf st (mkL 1 (ints new))=some (ints new):=by
  unfold mkL
  cases new with
  |nil=>rfl
  |cons a b=>rfl
 simp only[act0,h,hb]
 simp[hf,hp,hn]
theorem call_ok(hx:x.ok)(h:Rep x cl lim m I st)(e:m.l=f::l)(hd:m.l.length<=40)(hi:isI i.args=true)(hno:notOwn i.args=true){c:Nat}(hic:i.c=c)(hc:c<(dCs x.codes).length)
  (hv:(dTs (dCs x.codes)[c].vars).length<1000000)(hn:∀n∈dI i.args,inV f.vs.length n)(hlen:(dI i.args).length<=(dTs (dCs x.codes)[c].vars).length)(h40:m.l.length<40) :
  ∃st' I',st.length<=st'.length/\(∀li,li<=lim->(orcL S).call 0 li 62 [.ptr I.p 0 0 0,.agg i.cells] st=some (.tup [],st'))/\I'.p=I.p/\
   Rep x cl lim { m with l:=⟨c,0,i.a,(dI i.args).map (vAt f.vs)++List.replicate ((dTs (dCs x.codes)[c].vars).length-(dI i.args).length) 0⟩::m.l } I' st':=by
 have hs:=isSl_I hi
 have hvw:=view_notOwn hno hs
 have hP:=h.P
 have hF:=h.F
 have B:=h.lts
 have en:=fun li=>enter_ok li hx h hc hv i.a
 generalize hnv:(dTs (dCs x.codes)[c].vars).length=nv at *
 have hfl:=h.FR.len
 have hmp:((dI i.args).map (vAt f.vs)).length=(dI i.args).length:=by simp
 generalize hvs:(dI i.args).map (vAt f.vs)=vs at *
 obtain⟨s1,hs1⟩:∃s,s=st++[.rows 0 1 (ints (List.replicate nv 0)),.rows 0 4 [fRow ⟨c,0,i.a,[]⟩ st.length]]:=⟨_,rfl⟩
 have l1:s1.length=st.length+2:=by rw[hs1];simp
 have r1:Rep x cl lim m I s1:=by rw[hs1];exact h.app _
 have g1v:s1[st.length]?=some (.rows 0 1 (ints (List.replicate nv 0))):=by rw[hs1];simp
 have g1f:s1[st.length+1]?=some (.rows 0 4 [fRow ⟨c,0,i.a,[]⟩ st.length]):=by rw[hs1];simp
 have o1:∀j,j<st.length->s1[j]?=st[j]?:=fun j hj=>by rw[hs1];exact List.getElem?_append_left hj
 rw[<-hs1]at en
 have ea:=fun wl li=>each_ok wl li r1 e (by omega) hi hno hn (by omega)
 rw[hvs]at ea
 have cp:=fun li bx=>a_copyI (lim:=li) (bx:=bx) (new:=vs) g1v (by simp;omega)
 have hcpv:vs++(List.replicate nv (0:Int)).drop vs.length=vs++List.replicate (nv-(dI i.args).length) 0:=by rw[List.drop_replicate,hmp]
 rw[hcpv]at cp
 obtain⟨s2,hs2⟩:∃s,s=s1.set st.length (.rows 0 1 (ints (vs++List.replicate (nv-(dI i.args).length) 0))):=⟨_,rfl⟩
 rw[<-hs2]at cp
 have l2:s2.length=st.length+2:=by rw[hs2];simp[l1]
 have o2:∀j,j≠st.length->s2[j]?=s1[j]?:=fun j hj=>by rw[hs2];exact List.getElem?_set_ne fun q=>hj q.symm
 have g2v:s2[st.length]?=some (.rows 0 1 (ints (vs++List.replicate (nv-(dI i.args).length) 0))):=by rw[hs2];exact List.getElem?_set_self (by omega)
 obtain⟨s3,hs3⟩:∃s,s=s2++[.rows 0 1 [[.ptr (st.length+1) 0 0 0]]]:=⟨_,rfl⟩
 have o3:∀j,j<s2.length->s3[j]?=s2[j]?:=fun j hj=>by rw[hs3];exact List.getElem?_append_left hj
 have g3:s3[s2.length]?=some (.rows 0 1 [[.ptr (st.length+1) 0 0 0]]):=by rw[hs3];simp
 have l3:s3.length=st.length+3:=by rw[hs3];simp[l2]
 have g3F:s3[I.fq]?=some (.rows I.fv 1 (I.fl.reverse.map fun f=>[AV.ptr f.1 0 0 0])):=by
  rw[o3 _ (by have:=B.fq;omega),o2 _ (by have:=B.fq;omega),o1 _ B.fq];exact hF
 have hroom:((I.fl.reverse.map fun f=>[AV.ptr f.1 0 0 0]).length+1)*8<=room:=by simp[room];omega
 obtain⟨s4,hs4⟩:∃s,s=s3.set I.fq (.rows (I.fv+1) 1 ((I.fl.reverse.map fun f=>[AV.ptr f.1 0 0 0])++[[.ptr (st.length+1) 0 0 0]])):=⟨_,rfl⟩
 have ap:=fun li bx (hli:li<=lim)=>a_appP (lim:=li) (bx:=bx) g3 g3F hroom (Nat.le_trans hli (h.low _ (by rw[h.lf];decide)))
 rw[<-hs4]at ap
 have lt2:=fun wl lim bx=>(a_litP (wl:=wl) (lim:=lim) (a:=st.length+1) (st:=s2) (bx:=bx))
 rw[<-hs3]at lt2
 have l4:s4.length=st.length+3:=by rw[hs4];simp[l3]
 have o4:∀j,j≠I.fq->s4[j]?=s3[j]?:=fun j hj=>by rw[hs4];exact List.getElem?_set_ne fun q=>hj q.symm
 have hpf:I.p≠I.fq:=ne_lab h.lp h.lf (by decide)
 have old:∀j,j<st.length->j≠I.fq->s4[j]?=st[j]?:=fun j hj hq=>by rw[o4 _ hq,o3 _ (by omega),o2 _ (by omega),o1 _ hj]
 have g1P:=(o1 _ B.p).trans hP
 have g2P:=(o2 _ (by have:=B.p;omega)).trans g1P
 have g4P:=(old _ B.p hpf).trans hP
 have g2f:s2[st.length+1]?=some (.rows 0 4 [fRow ⟨c,0,i.a,[]⟩ st.length]):=(o2 _ (by omega)).trans g1f
 have hlp:=h.low _ (show I.lab I.p≠.no by rw[h.lp];decide)
 have hw:∀j,j≠I.p->∀y,(s4.set I.p y)[j]?=s4[j]?:=fun j hj y=>List.getElem?_set_ne fun q=>hj q.symm
 have hfin:Rep x cl lim { m with l:=⟨c,0,i.a,vs++List.replicate (nv-(dI i.args).length) 0⟩::m.l } { I with fv:=I.fv+1,fl:=(st.length+1,st.length)::I.fl,lab:=fun j=>if j=st.length\/j=st.length+1 then .fr else I.lab j }
   (s4.set I.p (.rows 0 15 [mRow x cl I.s I.iv I.g (.mu I.fq (I.fv+1)) I.mp m.e m.code (if m.out=[] then .nilSl else .mu I.o I.ov) m.steps])):=by
  have bp:=B.p
  have bq:=B.fq
  refine h.push (a:=st.length) (b:=st.length+1) (g:=⟨c,0,i.a,vs++List.replicate (nv-(dI i.args).length) 0⟩) (fun j hj n1 n2=>(hw j n1 _).trans (old j hj n2)) (List.getElem?_set_self (by omega)) ?_ (Nat.le_refl _) (by omega) (by omega) ?_ ?_
  ·rw[hw _ hpf.symm,hs4];exact List.getElem?_set_self (by omega)
  ·rw[hw _ (by omega),o4 _ (by omega),o3 _ (by omega)];exact g2f
  ·rw[hw _ (by omega),o4 _ (by omega),o3 _ (by omega)];exact g2v
 refine⟨_,{ I with fv:=I.fv+1,fl:=(st.length+1,st.length)::I.fl,lab:=fun j=>if j=st.length\/j=st.length+1 then .fr else I.lab j },?_,fun li hli=>?_,rfl,hfin⟩
 ·simp[l4]
 ·refine call_run (sf:=s62) rfl rfl rfl ?_
  have c40:¬(40:Int)<=(m.l.length:Int):=by omega
  simp[s62,ID.cells,hs,hP,hF,hfl,c40,mRow,cut,hic,en]
  have hlp2:li<=I.p:=Nat.le_trans hli hlp
  rw[W_drawP]
  simp[evalRec,pairOk,readsSame,boxOk,SOp.newBox,hvw,g1f,fRow,cut,ea,cp]
  refine⟨_,_,⟨rfl,rfl⟩,?_⟩
  simp[g1f,fRow,cut,oneOrAgg,AV.viewL,AV.view,Ent.same,AV.same,g2P,mRow,lt2,ap li _ hli,g4P,hlp2]
theorem call_no(h:Rep x cl lim m I st)(hi:isI i.args=true)(hno:notOwn i.args=true)(h40:40<=m.l.length) :
  ∃st',st'.length=st.length/\(∀li,(orcL S).call 0 li 62 [.ptr I.p 0 0 0,.agg i.cells] st=some (.tup [],st'))/\Rep x cl lim (trapM m 6) I st':=by
 have hs:=isSl_I hi
 have hvw:=view_notOwn hno hs
 have hP:=h.P
 have hF:=h.F
 have hfl:=h.FR.len
 have c40:(40:Int)<=(m.l.length:Int):=by omega
 obtain⟨s1,l1,t1,r1,_⟩:=trap_ok h 6
 refine⟨s1,l1,fun li=>?_,r1⟩
 refine call_run (sf:=s62) rfl rfl rfl ?_
 simp[s62,ID.cells,hs,hP,hF,hfl,c40,mRow,cut,t1]
theorem notOwn_sub{v:AV}(h:notOwn v=true)(a b:Nat):notOwn (subV v a b)=true:=by cases v<;>simp_all [notOwn,subV]
theorem read_ok(h:Rep x cl lim m I st)(e:m.l=f::l)(hd:m.l.length<=1000)(hi:isI i.args=true)(hno:notOwn i.args=true)(ha:inV f.vs.length i.a) :
  ∃st' I',st'.length=st.length/\(∀li,(orcL S).call 0 li 63 [.ptr I.p 0 0 0,.agg i.cells] st=some (.tup [],st'))/\I'.p=I.p/\Rep x cl lim (readM m i.a) I' st':=by
 have hs:=isSl_I hi
 have hvw:=view_notOwn hno hs
 have hP:=h.P
 obtain⟨g1,g2,g3⟩:=h.iv
 have gs:=isSl_I g1
 have gz:=isSz_I g1
 have gv:=view_notOwn g2 gs
 have gl:=rowsL_I g1
 cases hr:m.inp with
 |nil=>
  obtain⟨s1,l1,t1,r1,_⟩:=trap_ok h 5
  have hl0:dI I.iv=[]:=by rw[g3,hr]
  have htk:List.take st.length s1=s1:=List.take_of_length_le (by omega)
  refine⟨s1,I,l1,fun li=>?_,rfl,by unfold readM;rw[hr];exact r1⟩
  refine call_run (sf:=s63) rfl rfl rfl ?_
  simp[s63,ID.cells,hs,hP,mRow,cut,gs,gv,gl,hl0,ints,t1,htk]
 |cons n r=>
  obtain⟨s1,l1,t1,r1⟩:=set_ok h e hd i.a n ha
  have hl0:dI I.iv=n::r:=by rw[g3,hr]
  have hP1:=r1.P
  have em:readM m i.a={ setM m i.a n with inp:=r }:=by
   have a1:readM m i.a=setM { m with inp:=r } i.a n:=by unfold readM;rw[hr]
   have a2:setM { m with inp:=r } i.a n={ m with inp:=r,l:={ f with vs:=f.vs.set i.a.toNat n }::l }:=by
    unfold setM
    show (match m.l with|f::l=>({ m with inp:=r,l:={ f with vs:=f.vs.set i.a.toNat n }::l }:Ms) | []=>{ m with inp:=r })=_
    rw[e]
   have a3:setM m i.a n={ m with l:={ f with vs:=f.vs.set i.a.toNat n }::l }:=by unfold setM;rw[e]
   rw[a1,a2,a3]
  have hsub:notOwn (subV I.iv 1 (r.length+1))=true:=notOwn_sub g2 _ _
  have hd2:dI (subV I.iv 1 (r.length+1))=r:=by rw[dI_sub g1,hl0];simp
  have hs2:isSl (subV I.iv 1 (r.length+1))=true:=isSl_sub gs
  have hv2:=view_notOwn hsub hs2
  have se:(setM m i.a n).s=m.s/\(setM m i.a n).g=m.g/\(setM m i.a n).out=m.out/\(setM m i.a n).e=m.e/\(setM m i.a n).code=m.code/\(setM m i.a n).steps=m.steps:=by
   unfold setM;rw[e];exact⟨rfl,rfl,rfl,rfl,rfl,rfl⟩
  have hR:=r1.row { setM m i.a n with inp:=r } (subV I.iv 1 (r.length+1)) rfl rfl rfl rfl ⟨isI_sub g1,hsub,hd2⟩
  rw[<-em]at hR
  have ht:∀y,List.take st.length (s1.set I.p y)=s1.set I.p y:=fun y=>List.take_of_length_le (by simp;omega)
  refine⟨_,_,?_,fun li=>?_,?_,hR⟩
  ·simp[l1]
  ·refine call_run (sf:=s63) rfl rfl rfl ?_
   have h0:¬((r.length:Int)+1=0):=by omega
   have h1:(1:Int)<=(r.length:Int)+1:=by omega
   have hpu:=pure_sl hs2
   simp[s63,ID.cells,hs,hP,hP1,mRow,cut,gs,gz,gv,gl,hl0,ints,h0,h1,W_draw0,noBoxes,t1,ht,hs2,mayWrite,AV.allPure,paste,em]
  ·rfl
end E14
namespace E14
open Ax Go Code14z IrV Mach
variable {x:XD}{cl:AV}{lim:Nat}{m:Ms}{I:Ids}{st st':Store}{f:Fr}{l:List Fr}{i:ID}
theorem a_appI0{lim:Nat}{n:Int}{st:Store}{bx:Boxes}:act0 0 lim (.appendM 1 8) [.val .nilSl,.val (.lst 1 [[.int .i64 n]])] st bx=some (.val (.mu st.length 0),st++[.rows 0 1 (ints [n])],bx):=by
 simp[act0,appM,bringsOf,rowsOf,fits,room,ints]
theorem a_appI{lim q v:Nat}{n:Int}{old:List Int}{st:Store}{bx:Boxes}(h2:st[q]?=some (.rows v 1 (ints old)))(hr:(old.length+1)*8<=room) :
  act0 0 lim (.appendM 1 8) [.val (.mu q v),.val (.lst 1 [[.int .i64 n]])] st bx=some (.val (.mu q (v+1)),st.set q (.rows (v+1) 1 (ints (old++[n]))),bx):=by
 simp[act0,appM,bringsOf,rowsOf,h2,fits,hr,AV.allPure,AV.isPure]
theorem prints_ok(h:Rep x cl lim m I st)(e:m.l=f::l)(hd:m.l.length<=1000)(hi:isI i.args=true)(hno:notOwn i.args=true)(ha:inV f.vs.length i.a)(ho:m.out.length<1000000) :
  ∃st' I',st.length<=st'.length/\(∀li,li<=lim->(orcL S).call 0 li 64 [.ptr I.p 0 0 0,.agg i.cells] st=some (.tup [],st'))/\I'.p=I.p/\Rep x cl lim { m with out:=m.out++[vAt f.vs i.a] } I' st':=by
 have hs:=isSl_I hi
 have hvw:=view_notOwn hno hs
 have hP:=h.P
 have B:=h.lts
 have v1:=fun wl li=>v_ok wl li h e hd i.a ha
 have hlp:=h.low _ (show I.lab I.p≠.no by rw[h.lp];decide)
 by_cases q:m.out=[]
 ·have hP2:=hP
  rw[if_pos q]at hP2
  obtain⟨s1,hs1⟩:∃s,s=st++[.rows 0 1 (ints [vAt f.vs i.a])]:=⟨_,rfl⟩
  have ap:=fun li bx=>a_appI0 (lim:=li) (n:=vAt f.vs i.a) (st:=st) (bx:=bx)
  rw[<-hs1]at ap
  have g1:s1[I.p]?=st[I.p]?:=by rw[hs1];exact List.getElem?_append_left B.p
  have g1P:=g1.trans hP2
  have l1:s1.length=st.length+1:=by rw[hs1];simp
  have g1o:s1[st.length]?=some (.rows 0 1 (ints [vAt f.vs i.a])):=by rw[hs1];simp
  have bp:=B.p
  have hR:=h.printed (st':=s1.set I.p (.rows 0 15 [mRow x cl I.s I.iv I.g (.mu I.fq I.fv) I.mp m.e m.code (.mu st.length 0) m.steps])) (o:=st.length) (ov:=0) (out:=m.out++[vAt f.vs i.a]) (by simp) (.inr (Nat.le_refl _))
   (fun j hj n1 _=>by rw[List.getElem?_set_ne fun q=>n1 q.symm,hs1];exact List.getElem?_append_left hj) (List.getElem?_set_self (by omega)) (by rw[List.getElem?_set_ne (by omega),g1o,q];rfl)
  refine⟨_,_,?_,fun li hli=>?_,?_,hR⟩
  ·simp[l1]
  ·refine call_run (sf:=s64) rfl rfl rfl ?_
   have hlp2:li<=I.p:=Nat.le_trans hli hlp
   simp[s64,ID.cells,hs]
   rw[W_drawP]
   simp[-a_appendM,-a_appendM0,evalRec,pairOk,readsSame,mayWrite,boxOk,SOp.newBox,hP2,mRow,cut,v1,ap,g1P,hlp2,paste]
   refine⟨_,_,⟨rfl,rfl⟩,?_⟩
   simp[hP2,mRow,cut,oneOrAgg,AV.viewL,AV.view,Ent.same,AV.same]
  ·rfl
 ·have hP2:=hP
  rw[if_neg q]at hP2
  have hO:=h.O q
  obtain⟨s1,hs1⟩:∃s,s=st.set I.o (.rows (I.ov+1) 1 (ints (m.out++[vAt f.vs i.a]))):=⟨_,rfl⟩
  have ap:=fun li bx=>a_appI (lim:=li) (n:=vAt f.vs i.a) (bx:=bx) hO (by unfold room;omega)
  rw[<-hs1]at ap
  have hpo:I.o≠I.p:=ne_lab (h.lo q) h.lp (by decide)
  have g1:s1[I.p]?=st[I.p]?:=by rw[hs1];exact List.getElem?_set_ne hpo
  have g1P:=g1.trans hP2
  have l1:s1.length=st.length:=by rw[hs1];simp
  have g1o:s1[I.o]?=some (.rows (I.ov+1) 1 (ints (m.out++[vAt f.vs i.a]))):=by rw[hs1];exact List.getElem?_set_self (B.o q)
  have bp:=B.p
  have hR:=h.printed (st':=s1.set I.p (.rows 0 15 [mRow x cl I.s I.iv I.g (.mu I.fq I.fv) I.mp m.e m.code (.mu I.o (I.ov+1)) m.steps])) (o:=I.o) (ov:=I.ov+1) (out:=m.out++[vAt f.vs i.a]) (by simp) (.inl ⟨q,rfl⟩)
   (fun j hj n1 n2=>by rw[List.getElem?_set_ne fun q=>n1 q.symm,hs1];exact List.getElem?_set_ne fun c=>n2 q c.symm) (List.getElem?_set_self (by omega)) (by rw[List.getElem?_set_ne hpo.symm,g1o])
  refine⟨_,_,?_,fun li hli=>?_,?_,hR⟩
  ·simp[l1]
  ·refine call_run (sf:=s64) rfl rfl rfl ?_
   have hlp2:li<=I.p:=Nat.le_trans hli hlp
   simp[s64,ID.cells,hs]
   rw[W_drawP]
   simp[-a_appendM,-a_appendM0,evalRec,pairOk,readsSame,mayWrite,boxOk,SOp.newBox,hP2,mRow,cut,v1,ap,g1P,hlp2,paste]
   refine⟨_,_,⟨rfl,rfl⟩,?_⟩
   simp[hP2,mRow,cut,oneOrAgg,AV.viewL,AV.view,Ent.same,AV.same]
  ·rfl
end E14
namespace E14
open Ax Go Code14z IrV Mach
variable {x:XD}{cl:AV}{lim:Nat}{m:Ms}{I:Ids}{st st':Store}{f:Fr}{l:List Fr}{i:ID}
def q0(m:Ms)(I:Ids):Nat:=if m.s=[] then I.s else I.q
theorem Rep.S0(h:Rep x cl lim m I st):U10.Rp st I.s m.s (q0 m I) I.v I.ids:=by
 unfold q0
 by_cases e:m.s=[]
 ·rw[if_pos e]
  have:=h.S
  exact⟨this.len,by rw[this.obj,if_pos e,if_pos e],fun c=>absurd e c,this.el,fun c=>absurd e c,this.pn,fun c=>absurd e c,this.nd⟩
 ·rw[if_neg e];exact h.S
theorem Rep.q0_lab(h:Rep x cl lim m I st):I.lab (q0 m I)=.st:=by
 unfold q0
 by_cases e:m.s=[]
 ·rw[if_pos e];exact h.ls
 ·rw[if_neg e];exact h.lq e
def I2(I:Ids)(n q v:Nat):Ids:={ I with q:=q,v:=v,ids:=I.ids++[n],lab:=fun j=>if n<=j then .st else I.lab j }
theorem Rep.alloc(h:Rep x cl lim m I st){w:List Int}{q v:Nat}(r:U10.Rp st' I.s (m.s++[w]) q v (I.ids++[st.length]))(fr:U10.Fr st st' [I.s,q0 m I])(h1:m.s≠[]->q=q0 m I)(h2:m.s=[]->st.length<=q) :
  Rep x cl lim { m with s:=m.s++[w] } (I2 I st.length q v) st':=by
 have B:=h.lts
 have hle:lim<=st.length:=by
  have:=h.low I.p (by rw[h.lp];decide)
  have:=B.p
  omega
 refine h.things r (fun j hj hn=>fr.2 j hj fun hm=>?_) (fun j hj=>if_neg (by omega)) (fun _=>?_) (fun j hj=>?_) (fun j hj=>?_)
 ·simp only[List.mem_cons,List.not_mem_nil,or_false]at hm
  rcases hm with rfl|rfl
  ·exact hn h.ls
  ·exact hn h.q0_lab
 ·show (if st.length<=q then Lb.st else I.lab q)=.st
  by_cases e:m.s=[]
  ·rw[if_pos (h2 e)]
  ·have:=h1 e
   split
   ·rfl
   ·rw[this];exact h.q0_lab
 ·show (if st.length<=j then Lb.st else I.lab j)=.st
  rcases List.mem_append.1 hj with hj|hj
  ·rw[if_neg (by have:=B.ids j hj;omega)];exact h.li j hj
  ·simp at hj;subst hj;exact if_pos (Nat.le_refl _)
 ·by_cases q:st.length<=j
  ·omega
  ·rw[if_neg q]at hj;exact h.low j hj
theorem record_ok(h:Rep x cl lim m I st)(e:m.l=f::l)(hd:m.l.length<=1000)(hS:m.s.length<1000000)(hi:isI i.args=true)(hno:notOwn i.args=true)(ha:inV f.vs.length i.a){cells:List Int}(hcl:cl=mkL 1 (ints cells)){k:Nat}(hn:i.n=k)(hk:k<cells.length) :
  ∃st' I',st.length<=st'.length/\(∀li,li<=lim->(orcL S).call 0 li 60 [.ptr I.p 0 0 0,.agg i.cells] st=some (.tup [],st'))/\I'.p=I.p/\
   Rep x cl lim (setM { m with s:=m.s++[List.replicate (clampN cells[k]) 0] } i.a ((m.s.length:Int)+1)) I' st':=by
 have hs:=isSl_I hi
 have hvw:=view_notOwn hno hs
 obtain⟨s1,q1,v1,t1,r1,f1,a1,a2⟩:=U10.rec_ok h.S0 cells[k] hS
 have R1:=h.alloc r1 f1 a1 (fun e=>(a2 e).1)
 obtain⟨s2,l2,t2,r2⟩:=set_ok R1 e hd i.a ((m.s.length:Int)+1) ha
 have hP:=h.P
 have hlp:=h.low _ (show I.lab I.s≠.no by rw[h.ls];decide)
 have hlq:=h.low _ (show I.lab (q0 m I)≠.no by rw[h.q0_lab];decide)
 have hv:cl.view=.lst 1 (ints cells):=by
  rw[hcl]
  cases cells with
  |nil=>simp at hk
  |cons a b=>rfl
 refine⟨s2,_,by have:=f1.1;omega,fun li hli=>?_,?_,r2⟩
 ·refine call_run (sf:=s60) rfl rfl rfl ?_
  have t3:=t1 li (by omega) (by omega)
  have t4:∀li,(orcL S).call 0 li 107 [.ptr I.p 0 0 0,.int .i64 i.a,.int .i64 ((m.s.length:Int)+1)] s1=some (.tup [],s2):=t2
  simp[s60,ID.cells,hs,hP,mRow,cut,hv,hn,hk,t3,t4,W_draw0,noBoxes]
 ·rfl
theorem array_no(h:Rep x cl lim m I st)(e:m.l=f::l)(hd:m.l.length<=1000)(hi:isI i.args=true)(hno:notOwn i.args=true)(ha:inV f.vs.length i.a)(hb:inV f.vs.length i.b)(hn:vAt f.vs i.b<0\/50<vAt f.vs i.b) :
  ∃st',st.length<=st'.length/\(∀li,(orcL S).call 0 li 61 [.ptr I.p 0 0 0,.agg i.cells] st=some (.tup [],st'))/\Rep x cl lim (trapM m 4) I st':=by
 have hs:=isSl_I hi
 have hvw:=view_notOwn hno hs
 have hA:=h.app [.rows 0 1 [[.ptr I.p 0 0 0]],.rows 0 1 [[.int .i64 i.a]]]
 obtain⟨s1,l1,t1,r1⟩:=gotf_ok hA e hd i.a 0 4 ha (b1:=st.length) (b2:=st.length+1) (by simp) (by simp)
 have v1:=fun wl li=>v_ok wl li hA e hd i.b hb
 have gg:=fun wl li=>got_ok wl li I.p i.a st
 have aa:=fun wl li st=>U10.arr_no (p:=I.s) wl li (vAt f.vs i.b) st hn
 have hP:=hA.P
 have hP0:=h.P
 have hP1:=r1.P
 have hg:gotM m i.a (0,4)=trapM m 4:=rfl
 rw[hg]at r1
 refine⟨s1,by simp at l1;omega,fun li=>?_,r1⟩
 refine call_run (sf:=s61) rfl rfl rfl ?_
 simp[s61,ID.cells,hs]
 rw[W_drawP]
 simp[evalRec,pairOk,readsSame,boxOk,SOp.newBox,gg,hP,mRow,cut,v1,aa,t1]
 refine⟨_,_,⟨rfl,rfl⟩,?_⟩
 simp[hP0,hP,mRow,cut,oneOrAgg,AV.viewL,AV.view,Ent.same,AV.same]
theorem array_ok(h:Rep x cl lim m I st)(e:m.l=f::l)(hd:m.l.length<=1000)(hS:m.s.length<1000000)(hi:isI i.args=true)(hno:notOwn i.args=true)(ha:inV f.vs.length i.a)(hb:inV f.vs.length i.b){n:Nat}(hn:vAt f.vs i.b=n)(hn2:n<=50) :
  ∃st' I',st.length<=st'.length/\(∀li,li<=lim->(orcL S).call 0 li 61 [.ptr I.p 0 0 0,.agg i.cells] st=some (.tup [],st'))/\I'.p=I.p/\
   Rep x cl lim (setM { m with s:=m.s++[List.replicate n 0] } i.a ((m.s.length:Int)+1)) I' st':=by
 have hs:=isSl_I hi
 have hvw:=view_notOwn hno hs
 have hA:=h.app [.rows 0 1 [[.ptr I.p 0 0 0]],.rows 0 1 [[.int .i64 i.a]]]
 have v1:=fun wl li=>v_ok wl li hA e hd i.b hb
 rw[hn]at v1
 have gg:=fun wl li=>got_ok wl li I.p i.a st
 have g1:(st++[AObj.rows 0 1 [[.ptr I.p 0 0 0]],.rows 0 1 [[.int .i64 i.a]]])[st.length]?=some (.rows 0 1 [[.ptr I.p 0 0 0]]):=by simp
 have g2:(st++[AObj.rows 0 1 [[.ptr I.p 0 0 0]],.rows 0 1 [[.int .i64 i.a]]])[st.length+1]?=some (.rows 0 1 [[.int .i64 i.a]]):=by simp
 have hP:=hA.P
 have hP0:=h.P
 have B:=h.lts
 have lA:(st++[AObj.rows 0 1 [[.ptr I.p 0 0 0]],.rows 0 1 [[.int .i64 i.a]]]).length=st.length+2:=by simp
 generalize hs0:st++[AObj.rows 0 1 [[.ptr I.p 0 0 0]],.rows 0 1 [[.int .i64 i.a]]]=s0 at *
 obtain⟨s1,q1,w1,t1,r1,f1,a1,a2⟩:=U10.arr_ok hA.S0 n hS hn2
 have R1:=hA.alloc r1 f1 a1 (fun e=>(a2 e).1)
 have bs:=B.s
 have ls0:q0 m I<st.length:=by
  unfold q0
  split
  ·exact B.s
  ·rename_i c;exact B.q c
 have g1':s1[st.length]?=some (.rows 0 1 [[.ptr I.p 0 0 0]]):=by
  rw[f1.2 _ (by omega) (by simp;omega)];exact g1
 have g2':s1[st.length+1]?=some (.rows 0 1 [[.int .i64 i.a]]):=by
  rw[f1.2 _ (by omega) (by simp;omega)];exact g2
 obtain⟨s2,l2,t2,r2⟩:=gotf_ok R1 e hd i.a ((m.s.length:Int)+1) 0 ha g1' g2'
 have t4:∀li,(orcL S).call 0 li 142 [.int .i64 ((m.s.length:Int)+1),.int .i64 0,.ptr st.length 0 0 0,.ptr (st.length+1) 0 0 0] s1=some (.tup [],s2):=t2
 have hg:gotM { m with s:=m.s++[List.replicate n 0] } i.a ((m.s.length:Int)+1,0)=setM { m with s:=m.s++[List.replicate n 0] } i.a ((m.s.length:Int)+1):=by unfold gotM;rw[if_pos rfl]
 rw[hg]at r2
 have hlp:=h.low _ (show I.lab I.s≠.no by rw[h.ls];decide)
 have hlq:=h.low _ (show I.lab (q0 m I)≠.no by rw[h.q0_lab];decide)
 have hP2:=r2.P
 have hp2:(I2 I s0.length q1 w1).p=I.p:=rfl
 have hs2:(I2 I s0.length q1 w1).s=I.s:=rfl
 rw[hp2,hs2]at hP2
 refine⟨s2,_,by have:=f1.1;omega,fun li hli=>?_,?_,r2⟩
 ·have t3:=t1 li (by omega) (by omega)
  refine call_run (sf:=s61) rfl rfl rfl ?_
  simp[s61,ID.cells,hs]
  rw[W_drawP]
  simp[evalRec,pairOk,readsSame,boxOk,SOp.newBox,gg,hP,mRow,cut,v1,t3,t4]
  refine⟨_,_,⟨rfl,rfl⟩,?_⟩
  simp[hP0,hP,mRow,cut,oneOrAgg,AV.viewL,AV.view,Ent.same,AV.same]
 ·rfl
end E14
namespace E14
open Ax Go Code14z IrV Mach
variable {x:XD}{cl:AV}{lim:Nat}{m:Ms}{I:Ids}{st st':Store}{f:Fr}{l:List Fr}{i:ID}
theorem a_slP{lim q v n:Nat}{old:List (List AV)}{st:Store}{bx:Boxes}(h:st[q]?=some (.rows v 1 old))(hn:n<=old.length) :
  act0 0 lim (.sliceM 1) [.val (.mu q v),.val (.int .i64 n)] st bx=some (.val (.mu q (v+1)),st.set q (.rows (v+1) 1 (old.take n)),bx):=by
 simp[act0,h,hn]
theorem returns_ok(h:Rep x cl lim m I st)(e:m.l=f::l)(hd:m.l.length<=1000)(hi:isI i.args=true)(hno:notOwn i.args=true)(ha:i.a = -1\/inV f.vs.length i.a)
  (hto:f.to = -1\/∀g l',l=g::l'->inV g.vs.length f.to) :
  ∃st' I',st'.length=st.length/\(∀li,li<=lim->(orcL S).call 0 li 67 [.ptr I.p 0 0 0,.agg i.cells] st=some (.tup [],st'))/\I'.p=I.p/\Rep x cl lim (leaveM m (if i.a<0 then 0 else vAt f.vs i.a)) I' st':=by
 have hs:=isSl_I hi
 have hvw:=view_notOwn hno hs
 have hP:=h.P
 have B:=h.lts
 obtain⟨a,b,hab,h1,h2,h3,h4,h5,h6,h7⟩:=h.top e
 have ht:=fun wl li=>top_ok wl li h hab hd
 obtain⟨R,hF,hR,hg,hb,hRe⟩:=h.fl hab hd
 have hbl:b.length=l.length:=h3.len
 have hw:IntKind.i64.wrap (b.length:Int)=(b.length:Int):=by rw[wrap64]<;>omega
 have hpf:I.p≠I.fq:=ne_lab h.lp h.lf (by decide)
 have sl:=fun li bx=>a_slP (lim:=li) (bx:=bx) (n:=b.length) hF (by simp;omega)
 have htk0:(R++[[AV.ptr a.1 0 0 0]]).take b.length=R:=by rw[List.take_append_of_le_length (by omega),List.take_of_length_le (by omega)]
 rw[htk0]at sl
 obtain⟨s1,hs1⟩:∃s,s=st.set I.fq (.rows (I.fv+1) 1 R):=⟨_,rfl⟩
 rw[<-hs1]at sl
 have l1:s1.length=st.length:=by rw[hs1];simp
 have g1P:s1[I.p]?=some (.rows 0 15 [mRow x cl I.s I.iv I.g (.mu I.fq I.fv) I.mp m.e m.code (if m.out=[] then .nilSl else .mu I.o I.ov) m.steps]):=by rw[hs1,List.getElem?_set_ne hpf.symm];exact hP
 have g1F:s1[I.fq]?=some (.rows (I.fv+1) 1 R):=by rw[hs1];exact List.getElem?_set_self B.fq
 have o1:∀j,j≠I.fq->s1[j]?=st[j]?:=fun j hj=>by rw[hs1];exact List.getElem?_set_ne fun q=>hj q.symm
 have bp:=B.p
 have gp:∀y,(s1.set I.p y)[I.p]?=some y:=fun y=>List.getElem?_set_self (by omega)
 have gn:∀y j,j≠I.p->(s1.set I.p y)[j]?=s1[j]?:=fun y j hj=>List.getElem?_set_ne fun q=>hj q.symm
 have gf:∀y,(s1.set I.p y)[I.fq]?=some (.rows (I.fv+1) 1 R):=fun y=>(gn y _ hpf.symm).trans g1F
 have R2:=h.pop (st':=s1.set I.p (.rows 0 15 [mRow x cl I.s I.iv I.g (.mu I.fq (I.fv+1)) I.mp m.e m.code (if m.out=[] then .nilSl else .mu I.o I.ov) m.steps])) e hab
  (fun j n1 n2=>(gn _ j n1).trans (o1 j n2)) (gp _) (by rw[gf,hRe])
 have l2:(s1.set I.p (.rows 0 15 [mRow x cl I.s I.iv I.g (.mu I.fq (I.fv+1)) I.mp m.e m.code (if m.out=[] then .nilSl else .mu I.o I.ov) m.steps])).length=st.length:=by simp[l1]
 have v1:0<=i.a->∀wl li,(orcL S).call wl li 108 [.ptr I.p 0 0 0,.int .i64 i.a] st=some (.int .i64 (vAt f.vs i.a),st):=fun c wl li=>v_ok wl li h e hd i.a (by rcases ha with q|q;(· omega);exact q)
 have gfr:(s1.set I.p (.rows 0 15 [mRow x cl I.s I.iv I.g (.mu I.fq (I.fv+1)) I.mp m.e m.code (if m.out=[] then .nilSl else .mu I.o I.ov) m.steps]))[a.1]?=some (.rows 0 4 [fRow f a.2]):=by
  rw[gn _ _ (ne_lab h5 h.lp (by decide)),o1 _ (ne_lab h5 h.lf (by decide))];exact h1
 have hlp:=h.low _ (show I.lab I.p≠.no by rw[h.lp];decide)
 have hlt:(b.length:Int)<(b.length:Int)+1:=by omega
 cases hl:l with
 |nil=>
  have hb0:b.length=0:=by rw[hbl,hl];rfl
  have hR0:R=[]:=List.eq_nil_of_length_eq_zero (by omega)
  have em:leaveM m (if i.a<0 then 0 else vAt f.vs i.a)={ m with l:=[],e:=1 }:=by unfold leaveM;rw[e,hl]
  rw[hl]at R2
  have R3:=R2.row { m with l:=[],e:=1 } I.iv rfl rfl rfl rfl h.iv
  refine⟨_,_,?_,fun li hli=>?_,?_,by rw[em];exact R3⟩
  ·simp[l1]
  ·skip
   subst hR0
   rw[hb0]at sl
   have sl':∀li bx,act0 0 li (.sliceM 1) [.val (.mu I.fq I.fv),.val (.int .i64 0)] st bx=some (.val (.mu I.fq (I.fv+1)),s1,bx):=sl
   have hw0:IntKind.i64.wrap 0=0:=by rw[wrap64]<;>omega
   simp at hF
   refine call_run (sf:=s67) rfl rfl rfl ?_
   have hlp2:li<=I.p:=Nat.le_trans hli hlp
   by_cases c:i.a<0
   ·have c':¬0<=i.a:=by omega
    simp[-a_sliceM,s67,ID.cells,hs,ht,c',hP,hF,mRow,cut,W_draw0,noBoxes,sl',hw0,g1P,gp,gf,mayWrite,AV.allPure,AV.isPure,paste,hlp2]
   ·have c':0<=i.a:=by omega
    have v2:=v1 c'
    simp[-a_sliceM,s67,ID.cells,hs,ht,c',v2,hP,hF,mRow,cut,W_draw0,noBoxes,sl',hw0,g1P,gp,gf,mayWrite,AV.allPure,AV.isPure,paste,hlp2]
  ·rfl
 |cons g l'=>
  have hbn:¬((b.length:Int)=0):=by
   have:=hbl
   rw[hl]at this
   simp at this
   omega
  have hbn2:¬b=[]:=fun c=>hbn (by rw[c];rfl)
  have ga:∀y,(s1.set I.p y)[a.1]?=some (.rows 0 4 [fRow f a.2]):=fun y=>by
   rw[gn _ _ (ne_lab h5 h.lp (by decide)),o1 _ (ne_lab h5 h.lf (by decide))];exact h1
  have em:leaveM m (if i.a<0 then 0 else vAt f.vs i.a)=if 0<=f.to then setM { m with l:=l } f.to (if i.a<0 then 0 else vAt f.vs i.a) else { m with l:=l }:=by
   unfold leaveM setM
   rw[e,hl]
   by_cases q:0<=f.to
   ·simp only[if_pos q]
   ·simp only[if_neg q]
  have hd2:({ m with l:=l }:Ms).l.length<=1000:=by
   have:=hd
   rw[e]at this
   simp at this
   simp only;omega
  have hlr:(R++[[AV.ptr a.1 0 0 0]]).length=b.length+1:=by simp[hR]
  by_cases q:0<=f.to
  ·rw[if_pos q]at em
   have hin:inV g.vs.length f.to:=by
    rcases hto with c|c
    ·omega
    ·exact c g l' hl
   obtain⟨s3,l3,t3,r3⟩:=set_ok R2 (f:=g) (l:=l') hl hd2 f.to (if i.a<0 then 0 else vAt f.vs i.a) hin
   rw[l2]at l3
   refine⟨s3,_,l3,fun li hli=>?_,?_,by rw[em];exact r3⟩
   ·skip
    have t4:∀li,(orcL S).call 0 li 107 [.ptr I.p 0 0 0,.int .i64 f.to,.int .i64 (if i.a<0 then 0 else vAt f.vs i.a)] _=some (.tup [],s3):=t3
    simp only[mRow]at t4
    refine call_run (sf:=s67) rfl rfl rfl ?_
    have hlp2:li<=I.p:=Nat.le_trans hli hlp
    by_cases c:i.a<0
    ·have c':¬0<=i.a:=by omega
     simp only[if_pos c]at t4
     simp[-a_sliceM,s67,ID.cells,hs,ht,c',hP,hF,hR,hw,hbn2,mRow,fRow,cut,W_draw0,noBoxes,sl,g1P,gp,gf,ga,q,t4,mayWrite,AV.allPure,AV.isPure,paste,hlp2]
    ·have c':0<=i.a:=by omega
     have v2:=v1 c'
     simp only[if_neg c]at t4
     simp[-a_sliceM,s67,ID.cells,hs,ht,c',v2,hP,hF,hR,hw,hbn2,mRow,fRow,cut,W_draw0,noBoxes,sl,g1P,gp,gf,ga,q,t4,mayWrite,AV.allPure,AV.isPure,paste,hlp2]
   ·rfl
  ·rw[if_neg q]at em
   refine⟨_,_,l2,fun li hli=>?_,?_,by rw[em];exact R2⟩
   ·skip
    refine call_run (sf:=s67) rfl rfl rfl ?_
    have hlp2:li<=I.p:=Nat.le_trans hli hlp
    by_cases c:i.a<0
    ·have c':¬0<=i.a:=by omega
     simp[-a_sliceM,s67,ID.cells,hs,ht,c',hP,hF,hR,hw,hbn2,mRow,fRow,cut,W_draw0,noBoxes,sl,g1P,gp,gf,ga,q,mayWrite,AV.allPure,AV.isPure,paste,hlp2]
    ·have c':0<=i.a:=by omega
     have v2:=v1 c'
     simp[-a_sliceM,s67,ID.cells,hs,ht,c',v2,hP,hF,hR,hw,hbn2,mRow,fRow,cut,W_draw0,noBoxes,sl,g1P,gp,gf,ga,q,mayWrite,AV.allPure,AV.isPure,paste,hlp2]
   ·rfl
end E14
namespace E14
open Ax Go Code14z IrV Mach
variable {x:XD}{cl:AV}{lim:Nat}{m:Ms}{I:Ids}{st st':Store}{f:Fr}{l:List Fr}{i:ID}{X:MP}
structure Of (x:XD)(cl:AV)(X:MP):Prop where
 ok:x.ok
 codes:X.codes=dCs x.codes
 cl:cl=mkL 1 (ints (X.cells.map fun n:Nat=>(n:Int)))
 vars:∀c∈dCs x.codes,(dTs c.vars).length<1000000
theorem Of.nv(h:Of x cl X){c:Nat}(hc:c<(dCs x.codes).length):nvOf X c=(dTs (dCs x.codes)[c].vars).length:=by
 unfold nvOf
 rw[h.codes,List.getD_eq_getElem?_getD,List.getElem?_eq_getElem hc]
 rfl
def Did(x:XD)(cl:AV)(lim:Nat)(m':Ms)(I:Ids)(st:Store)(fn:Nat)(i:ID):Prop:=
 ∃st' I',st.length<=st'.length/\(∀li,li<=lim->(orcL S).call 0 li fn [.ptr I.p 0 0 0,.agg i.cells] st=some (.tup [],st'))/\I'.p=I.p/\Rep x cl lim m' I' st'
theorem Did.of{m':Ms}{fn:Nat}(h:∃st',st'.length=st.length/\(∀li,(orcL S).call 0 li fn [.ptr I.p 0 0 0,.agg i.cells] st=some (.tup [],st'))/\Rep x cl lim m' I st'):Did x cl lim m' I st fn i:=by
 obtain⟨s,h1,h2,h3⟩:=h
 exact⟨s,I,by omega,fun li _=>h2 li,rfl,h3⟩
theorem do_ok(O:Of x cl X)(h:Rep x cl lim m I st)(e:m.l=f::l)(hd:m.l.length<=40)(hS:m.s.length<1000000)(ho:m.out.length<1000000){ni:Nat}(fit:Fit X f.vs.length ni i)(hi:isI i.args=true)(hno:notOwn i.args=true)
  (hg:m.g.length=X.ng)(hto:f.to = -1\/∀g l',l=g::l'->inV g.vs.length f.to):Did x cl lim (doI X m f.vs i) I st (49+i.op.toNat) i:=by
 have hd':m.l.length<=1000:=by omega
 have fo:∀k:Nat,i.op=k->49+i.op.toNat=49+k:=fun k hk=>by omega
 have fa:=fit.a
 have fb:=fit.b
 have fc:=fit.c
 unfold doI
 by_cases h1:i.op=1
 ·rw[if_pos h1,fo 1 h1]
  exact .of (constant_ok h e hd' hi hno (fa (by omega) (by omega) (by omega)))
 rw[if_neg h1]
 by_cases h2:i.op=2
 ·rw[if_pos h2,fo 2 h2]
  exact .of (null_ok h e hd' hi hno (fa (by omega) (by omega) (by omega)))
 rw[if_neg h2]
 by_cases h3:i.op=3
 ·rw[if_pos h3,fo 3 h3]
  exact .of (copies_ok h e hd' hi hno (fa (by omega) (by omega) (by omega)) (fb (by omega)))
 rw[if_neg h3]
 by_cases h4:i.op=4
 ·rw[if_pos h4,fo 4 h4]
  obtain⟨s1,a1,a2,a3⟩:=two_ok h e hd' hi hno (fa (by omega) (by omega) (by omega)) (fb (by omega)) (fc (by omega))
  exact .of ⟨s1,a1,a2,a3⟩
 rw[if_neg h4]
 by_cases h5:i.op=5
 ·rw[if_pos h5,fo 5 h5]
  exact .of (one_ok h e hd' hi hno (fa (by omega) (by omega) (by omega)) (fb (by omega)))
 rw[if_neg h5]
 by_cases h6:i.op=6
 ·rw[if_pos h6,fo 6 h6]
  exact .of (load_ok h e hd' hS hi hno (fa (by omega) (by omega) (by omega)) (fb (by omega)))
 rw[if_neg h6]
 by_cases h7:i.op=7
 ·rw[if_pos h7,fo 7 h7]
  exact .of (keep_ok h e hd' hS hi hno (fa (by omega) (by omega) (by omega)) (fb (by omega)))
 rw[if_neg h7]
 by_cases h8:i.op=8
 ·rw[if_pos h8,fo 8 h8]
  exact .of (item_ok h e hd' hS hi hno (fa (by omega) (by omega) (by omega)) (fb (by omega)) (fc (by omega)))
 rw[if_neg h8]
 by_cases h9:i.op=9
 ·rw[if_pos h9,fo 9 h9]
  exact .of (lay_ok h e hd' hS hi hno (fa (by omega) (by omega) (by omega)) (fb (by omega)) (fc (by omega)))
 rw[if_neg h9]
 by_cases h10:i.op=10
 ·rw[if_pos h10,fo 10 h10]
  exact .of (length_ok h e hd' hS hi hno (fa (by omega) (by omega) (by omega)) (fb (by omega)))
 rw[if_neg h10]
 by_cases h11:i.op=11
 ·rw[if_pos h11,fo 11 h11]
  obtain⟨b1,b2⟩:=fit.site h11
  have hk:i.n.toNat<X.cells.length:=by omega
  obtain⟨s1,I1,a1,a2,a3,a4⟩:=record_ok h e hd' hS hi hno (fa (by omega) (by omega) (by omega)) O.cl (k:=i.n.toNat) (by omega) (by simpa using hk)
  refine⟨s1,I1,a1,a2,a3,?_⟩
  have:((X.cells.map fun n:Nat=>(n:Int))[i.n.toNat]'(by simpa using hk))=((X.cells.getD i.n.toNat 0:Nat):Int):=by
   rw[List.getElem_map,List.getD_eq_getElem?_getD,List.getElem?_eq_getElem hk]
   rfl
  rw[this]at a4
  exact a4
 rw[if_neg h11]
 by_cases h12:i.op=12
 ·rw[if_pos h12,fo 12 h12]
  have ha:=fa (by omega) (by omega) (by omega)
  have hb:=fb (by omega)
  by_cases c:vAt f.vs i.b<0\/50<vAt f.vs i.b
  ·rw[if_pos c]
   obtain⟨s1,a1,a2,a3⟩:=array_no h e hd' hi hno ha hb c
   exact⟨s1,I,a1,fun li _=>a2 li,rfl,a3⟩
  ·rw[if_neg c]
   obtain⟨s1,I1,a1,a2,a3,a4⟩:=array_ok h e hd' hS hi hno ha hb (n:=(vAt f.vs i.b).toNat) (by omega) (by omega)
   exact⟨s1,I1,a1,a2,a3,a4⟩
 rw[if_neg h12]
 by_cases h13:i.op=13
 ·rw[if_pos h13,fo 13 h13]
  obtain⟨c1,c2,c3,c4⟩:=fit.call h13
  unfold callM
  by_cases c:40<=m.l.length
  ·rw[if_pos c]
   exact .of (call_no h hi hno c)
  ·rw[if_neg c]
   have hc:i.c.toNat<(dCs x.codes).length:=by rw[<-O.codes];omega
   have hv:=O.vars _ (List.getElem_mem hc)
   have hnv:=O.nv hc
   rw[hnv]at c3
   obtain⟨s1,I1,a1,a2,a3,a4⟩:=call_ok O.ok h e hd hi hno (c:=i.c.toNat) (by omega) hc hv c4 c3 (by omega)
   refine⟨s1,I1,a1,a2,a3,?_⟩
   unfold enterM
   rw[hnv,List.length_map]
   exact a4
 rw[if_neg h13]
 by_cases h14:i.op=14
 ·rw[if_pos h14,fo 14 h14]
  obtain⟨s1,I1,a1,a2,a3,a4⟩:=read_ok h e hd' hi hno (fa (by omega) (by omega) (by omega))
  exact⟨s1,I1,by omega,fun li _=>a2 li,a3,a4⟩
 rw[if_neg h14]
 by_cases h15:i.op=15
 ·rw[if_pos h15,fo 15 h15]
  exact prints_ok h e hd' hi hno (fa (by omega) (by omega) (by omega)) ho
 rw[if_neg h15]
 by_cases h16:i.op=16
 ·rw[if_pos h16,fo 16 h16]
  exact .of (jump_ok h e hd' hi hno)
 rw[if_neg h16]
 by_cases h17:i.op=17
 ·rw[if_pos h17,fo 17 h17]
  exact .of (branch_ok h e hd' hi hno (fa (by omega) (by omega) (by omega)))
 rw[if_neg h17]
 by_cases h18:i.op=18
 ·rw[if_pos h18,fo 18 h18]
  obtain⟨s1,I1,a1,a2,a3,a4⟩:=returns_ok h e hd' hi hno (fit.a2 (.inr h18)) hto
  exact⟨s1,I1,by omega,a2,a3,a4⟩
 rw[if_neg h18]
 by_cases h19:i.op=19
 ·rw[if_pos h19,fo 19 h19]
  exact .of (get_ok h e hd' hi hno (fa (by omega) (by omega) (by omega)) (by rw[hg];exact fit.glob (by omega)))
 rw[if_neg h19]
 by_cases h20:i.op=20
 ·rw[if_pos h20,fo 20 h20]
  exact .of (put_ok h e hd' hi hno (fa (by omega) (by omega) (by omega)) (by rw[hg];exact fit.glob (by omega)))
 have:=fit.op
 omega
end E14
