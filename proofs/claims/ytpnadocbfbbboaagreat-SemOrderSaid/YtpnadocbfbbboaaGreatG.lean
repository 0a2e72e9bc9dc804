/-
  A statement.
-/
import Derived.Test.YtpnadocbfbbboaaGreatF
import Derived.Test.YtpnadocbfbbboaaGreatS
import Derived.Test.YtpnadocbfbbboaaGreatP
import Derived.Test.YtpnadocbfbbboaaGreatN

set_option maxRecDepth 100000
set_option maxHeartbeats 8000000
namespace E11
open Ax Go Code11 V7 Par Chk Run K9 S9
variable {T:Px}{C:Cx}{D:Dm}{n:Nat}{fE:E->Fm->Rs->Int×Rs}{fS:Sm->Rs×Fm->Rs×Fm}{lim:Nat}{L:List Fm}{r:Rs}{I:Ids}{st st':Store}{f:Fm}
theorem ints_set (X:List Int)(k:Nat)(v:Int):(ints X).set k [.int .i64 v]=ints (X.set k v):=by simp[ints,List.map_set]
theorem varS_ok (h:Rep T lim (f::L) r I st){ref:Int}(h1:ref<f.vs.length)(h2 : -1-ref<r.g.length)(hb:r.g.length<1000000) :
  ∃j k X,(∀wl li,(orcL S).call wl li 101 [.ptr I.p 0 0 0,.ptr (topP I) 0 0 0,.int .i64 ref] st=some (.ptr j 0 k 0,st))/\st[j]?=some (.rows 0 1 (ints X))/\k<X.length/\
   ∀v,Rep T lim ((setV (r,f) ref v).2::L) (setV (r,f) ref v).1 I (st.set j (.rows 0 1 (ints (X.set k v)))):=by
 obtain⟨a,b,ha,t1,t2,t3,t4,t5,t6,t7⟩:=h.top
 have et:topP I=a.1:=by unfold topP;rw[ha]
 rw[et]
 by_cases q:ref<0
 ·obtain⟨k,rfl⟩:∃k:Nat,ref = -1-(k:Int):=⟨(-1-ref).toNat,by omega⟩
  have hk:k<r.g.length:=by omega
  refine⟨I.g,k,r.g,fun wl li=>var_g wl li h _ hk hb,h.G,hk,fun v=>?_⟩
  have e:(-1-(-1-(k:Int))).toNat=k:=by omega
  unfold setV
  rw[if_pos q,e]
  exact h.glob _
 ·obtain⟨k,rfl⟩:∃k:Nat,ref=(k:Int):=⟨ref.toNat,by omega⟩
  have hk:k<f.vs.length:=by omega
  refine⟨a.2,k,f.vs,fun wl li=>var_v wl li h ha hk,t2,hk,fun v=>?_⟩
  unfold setV
  rw[if_neg q]
  refine h.frame ha (fun i h1 h2=>List.getElem?_set_ne fun e=>h2 e.symm) ?_ ?_
  ·rw[List.getElem?_set_ne fun e=>t4 e.symm];exact t1
  ·rw[List.getElem?_set_self (lt_of t2)];rfl
theorem stmt_ok (K:Prg T C D){N:Nat}{gS:Sm->Rs×Fm->Rs×Fm}(hgS:∀s x,gS s x=if s.k=1 then x else if s.k=6 then loopR C fE fS (es0 s.es) s.bd N x else if okR C x.1=true/\N≠0 then stmtR fE fS s (tick x.1,x.2) else (stop x.1,x.2))
  (HN:∀n,N=n+1->Hy T C D n fE fS):PS T C D N gS:=by
 intro lim L r I st f s h hw hr hsz hG hn
 rw[hgS]
 have e1:isSl (esV s.es)=true:=isSl_esV
 have e2:(esV s.es).view=esV s.es:=view_esV
 have b1:isSl (ssV s.bd)=true:=isSl_ssV
 have b2:(ssV s.bd).view=ssV s.bd:=view_ssV
 have l1:isSl (ssV s.el)=true:=isSl_ssV
 have l2:(ssV s.el).view=ssV s.el:=view_ssV
 have hse:=Sm.sz_eq s
 rw[WS_eq]at hw
 rw[refS_eq]at hr
 obtain⟨⟨⟨k1,k9⟩,kg,kl,kp,kr⟩,we,wb,wl⟩:=hw
 obtain⟨re,rv,rg,rb,rl⟩:=hr
 by_cases c1:s.k=1
 ·rw[if_pos c1]
  refine⟨st,I,?_,rfl,rfl,h⟩
  rw[Sm.row_eq]
  refine call_run (sf:=s78) rfl rfl rfl ?_
  generalize esV s.es=ES at *
  generalize ssV s.bd=BD at *
  generalize ssV s.el=EL at *
  simp[s78,e1,b1,l1,SOp.newBox,AV.view,c1]
 rw[if_neg c1]
 by_cases c6:s.k=6
 ·rw[if_pos c6]
  obtain⟨c,hes⟩:∃c,s.es=[c]:=by
   have:=kl (by omega)
   match hh:s.es,this with
   |[c],_=>exact⟨c,rfl⟩
  have hc:es0 s.es=c:=by rw[hes];rfl
  rw[hc]
  have hzc:E.sz c<1000000000:=by have:=E.szs_mem (l:=s.es) (e:=c) (by rw[hes];simp);omega
  obtain⟨s1,I1,t1,ip,il,R1⟩:=loop_ok K HN s c hes h (by rw[hes]at we;exact we.1) wb (by rw[hes]at re;exact re.1) rb hzc (by omega) hG hn
  refine⟨s1,I1,?_,ip,il,R1⟩
  rw[Sm.row_eq]at t1 ⊢
  refine call_run (sf:=s78) rfl rfl rfl ?_
  generalize esV s.es=ES at *
  generalize ssV s.bd=BD at *
  generalize ssV s.el=EL at *
  simp only[c6]at t1
  simp[s78,e1,e2,b1,b2,l1,l2,SOp.newBox,AV.view,c6,t1]
  done
 rw[if_neg c6]
 obtain⟨s1,ls1,t1,R1⟩:=step_ok h (by have:=K.fu;omega) C K.fuel
 by_cases ho:okR C r=true
 ·rw[if_pos ho]at R1
  rw[ho]at t1
  obtain⟨n,rfl⟩:∃n,N=n+1:=⟨N-1,by have:=(okR_iff.1 ho).2;omega⟩
  have H:=HN n rfl
  rw[if_pos ⟨ho,by omega⟩]
  have G1:Gd C 1 (tick r):=hG.tick ho
  have G0:Gd C 0 (tick r):=G1.less (by omega)
  have hn1:C.fuel<=(tick r).steps+n:=by show C.fuel<=r.steps+1+n;omega
  have hte:(tick r).e=0:=(okR_iff.1 ho).1
  by_cases c4:s.k=4
  ·obtain⟨a,b,hes,hab⟩:=kp c4
   rw[hes]at we re
   have hab':(a.k=5/\a.kids.length=1)\/(a.k=6/\a.kids.length=2):=by
    have:=(WE_eq a).1 we.1
    obtain⟨⟨_,_,q1,q2,_⟩,_⟩:=this
    rcases hab with q|q
    ·exact .inl ⟨q,q1 (.inl q)⟩
    ·exact .inr ⟨q,q2 (.inl q)⟩
   have hwk:WL D (a.kids++[b]):=by
    rw[WL_iff]
    intro e he
    rcases List.mem_append.1 he with he|he
    ·exact(WL_iff _).1 ((WE_eq a).1 we.1).2 e he
    ·rw[List.mem_singleton.1 he];exact we.2.1
   have hrk:refL f.vs.length (a.kids++[b]):=by
    rw[refL_iff]
    intro e he
    rcases List.mem_append.1 he with he|he
    ·exact(refL_iff _ _).1 ((refE_eq _ a).1 re.1).2 e he
    ·rw[List.mem_singleton.1 he];exact re.2.1
   have hzk:E.szs (a.kids++[b])<1000000000:=by
    have q1:E.szs s.es=E.sz a+E.sz b:=by rw[hes];simp[E.szs]
    have q2:=E.sz_kids a
    have q3:E.szs (a.kids++[b])=E.szs a.kids+E.sz b:=by
     generalize a.kids=l
     induction l with
     |nil=>simp[E.szs]
     |cons x l ih=>simp[E.szs,ih];omega
    omega
   obtain⟨s2,I2,t2,ip,il,R2⟩:=put_ok K H s a b hes hab' R1 hwk hrk hzk G0 hn1 hte
   have ex:stmtR fE fS s (tick r,f)=match vals fE f (a.kids++[b]) (tick r) with|(none,r)=>(r,f)|(some l,r)=>putR (r,f) a.k a.ref l:=by
    unfold stmtR
    rw[if_pos c4]
    have q1:es0 s.es=a:=by rw[hes];rfl
    have q2:s.es.drop 1=[b]:=by rw[hes];rfl
    rw[q1,q2]
    rfl
   have ex2:(stmtR fE fS s (tick r,f)).2=f:=by
    rw[ex]
    split
    ·rfl
    ·unfold putR;split<;>rfl
   rw[ex2]
   rw[ex]
   refine⟨s2,I2,?_,ip,il,R2⟩
   rw[Sm.row_eq]at t2 ⊢
   refine call_run (sf:=s78) rfl rfl rfl ?_
   generalize esV s.es=ES at *
   generalize ssV s.bd=BD at *
   generalize ssV s.el=EL at *
   simp only[c4]at t2
   simp[s78,e1,e2,b1,b2,l1,l2,SOp.newBox,AV.view,c4,t1,t2]
   done
  obtain⟨s2,I2,t2,ip,il,R2⟩:=vals_ok H s.es R1 we re (by omega) G0 hn1
  have hon:=on_vals H.oE f s.es (tick r)
  have G2:=(vals_gd H.gE f s.es 1 (tick r) G1).1
  cases hv:vals fE f s.es (tick r) with
  |mk o r2=>
  have hlen:∀l,o=some l->l.length=s.es.length:=fun l hl=>vals_len (by rw[hv,hl])
  have he0:∀l,o=some l->r2.e=0:=fun l hl=>vals_e0 (fE:=fE) (f:=f) s.es (tick r) hte l r2 (by rw[hv,hl])
  rw[hv]at t2 R2 hon G2
  simp only at R2 hon G2
  cases o with
  |none=>
   have ex:stmtR fE fS s (tick r,f)=(r2,f):=by
    unfold stmtR
    rw[if_neg c4]
    simp only[hv]
   rw[ex]
   refine⟨s2,I2,?_,ip,il,R2⟩
   rw[Sm.row_eq]
   simp only[valsV]at t2
   refine call_run (sf:=s78) rfl rfl rfl ?_
   generalize esV s.es=ES at *
   generalize ssV s.bd=BD at *
   generalize ssV s.el=EL at *
   simp[s78,e1,e2,b1,l1,SOp.newBox,AV.view,c1,c4,c6,t1,t2]
   done
  |some l=>
   have ex:stmtR fE fS s (tick r,f)=actR fS s.k s.ref s.bd s.el l (r2,f):=by
    unfold stmtR
    rw[if_neg c4]
    simp only[hv]
   rw[ex]
   have hl:=hlen l rfl
   have hz0:=he0 l rfl
   have hst:=hon.st
   have hP:=R2.P
   have hg2:=G2.g
   have et:topP I2=topP I:=by unfold topP;rw[il]
   rw[ip]at hP
   have m1:isSl (mkL 1 (ints l))=true:=isSl_mk
   have m2:(mkL 1 (ints l)).view=lstV 1 (ints l):=rfl
   have m3:isSl (lstV 1 (ints l))=true:=isSl_lstV
   have m4:(lstV 1 (ints l)).view=lstV 1 (ints l):=view_lstV
   have m5:rowsL (lstV 1 (ints l))=ints l:=rowsL_lstV
   have m6:isSz 1 (lstV 1 (ints l))=true:=isSz_lst (by simp[fits,ints])
   have m7:(mkL 1 (ints l)).isPure=true:=by unfold mkL;cases ints l<;>rfl
   suffices h:∃v' st',(orcL S).call 0 lim 78 [.ptr I.p 0 0 0,.ptr (topP I) 0 0 0,.agg s.row] st=some (v',st')/\v'=.tup []/\∃I',I'.p=I.p/\I'.fl=I.fl/\Rep T lim ((actR fS s.k s.ref s.bd s.el l (r2,f)).2::L) (actR fS s.k s.ref s.bd s.el l (r2,f)).1 I' st' by
    obtain⟨v',st',h1,rfl,I',h2⟩:=h
    exact⟨st',I',h1,h2⟩
   rw[Sm.row_eq]
   refine call_ex (sf:=s78) rfl rfl rfl ?_
   simp only[valsV]at t2
   generalize esV s.es=ES at *
   generalize hBD:ssV s.bd=BD at *
   generalize hEL:ssV s.el=EL at *
   generalize mkL 1 (ints l)=MV at *
   generalize lstV 1 (ints l)=LV at *
   simp[s78,e1,e2,b1,l1,SOp.newBox,AV.view,c1,c4,c6,t1,t2,m2]
   by_cases c2:s.k=2
   ·obtain⟨a,rfl⟩:∃a,l=[a]:=⟨_,len1 (by rw[hl];exact kl (by omega))⟩
    have ep:actR fS s.k s.ref s.bd s.el [a] (r2,f)=setV (r2,f) s.ref a:=by simp[actR,c2,at0]
    rw[ep]
    have hgl:=K.gl
    have rvv:=rv (by omega)
    obtain⟨j,k,X,v1,v2,v3,v4⟩:=varS_ok R2 (ref:=s.ref) rvv.2 (by omega) (by rw[hg2,K.ng];exact hgl)
    rw[et,ip]at v1
    have v5:=v4 a
    rw[<-ints_set]at v5
    have m5':rowsL LV=[[.int .i64 a]]:=by rw[m5];rfl
    have hkX:k<(ints X).length:=by simpa using v3
    simp[c2]
    rw[W_drawP]
    simp[evalRec,pairOk,readsSame,boxOk,SOp.newBox,paste,cut,mayWrite,AV.allPure,AV.isPure,v1,v2,v3,m5',m6]
    refine⟨_,_,⟨rfl,rfl⟩,?_⟩
    simp[oneOrAgg,AV.viewL,AV.view,Ent.same,AV.same,AV.sameL,AV.sameLL,m5',m6,ExQ_endO]
    exact⟨I2,ip,il,v5⟩
   by_cases c3:s.k=3
   ·obtain⟨a,rfl⟩:∃a,l=[a]:=⟨_,len1 (by rw[hl];exact kl (by omega))⟩
    have ep:actR fS s.k s.ref s.bd s.el [a] (r2,f)=setV (r2,f) s.ref a:=by simp[actR,c3,at0]
    rw[ep]
    have hgl:=K.gl
    have rvv:=rg c3
    obtain⟨j,k,X,v1,v2,v3,v4⟩:=varS_ok R2 (ref:=s.ref) rvv (by rw[hg2,K.ng];exact kg c3) (by rw[hg2,K.ng];exact hgl)
    rw[et,ip]at v1
    have v5:=v4 a
    rw[<-ints_set]at v5
    have m5':rowsL LV=[[.int .i64 a]]:=by rw[m5];rfl
    have hkX:k<(ints X).length:=by simpa using v3
    simp[c3]
    rw[W_drawP]
    simp[evalRec,pairOk,readsSame,boxOk,SOp.newBox,paste,cut,mayWrite,AV.allPure,AV.isPure,v1,v2,v3,m5',m6]
    refine⟨_,_,⟨rfl,rfl⟩,?_⟩
    simp[oneOrAgg,AV.viewL,AV.view,Ent.same,AV.same,AV.sameL,AV.sameLL,m5',m6,ExQ_endO]
    exact⟨I2,ip,il,v5⟩
   by_cases c5:s.k=5
   ·obtain⟨a,rfl⟩:∃a,l=[a]:=⟨_,len1 (by rw[hl];exact kl (by omega))⟩
    by_cases a0:a=0
    ·have ep:actR fS s.k s.ref s.bd s.el [a] (r2,f)=runB fS s.el (r2,f):=by simp[actR,c5,at0,a0]
     rw[ep]
     obtain⟨s3,I3,t3,ip3,il3,R3⟩:=block_ok H s.el R2 wl rl (by omega) (G2.less (by omega)) (by omega)
     rw[et,ip,hEL]at t3
     simp[c5,ExQ_endO,m5,m6,ints,a0,l2,t3]
     exact⟨I3,by rw[ip3,ip],by rw[il3,il],R3⟩
    ·have ep:actR fS s.k s.ref s.bd s.el [a] (r2,f)=runB fS s.bd (r2,f):=by simp[actR,c5,at0,a0]
     rw[ep]
     obtain⟨s3,I3,t3,ip3,il3,R3⟩:=block_ok H s.bd R2 wb rb (by omega) (G2.less (by omega)) (by omega)
     rw[et,ip,hBD]at t3
     simp[c5,ExQ_retO,m5,m6,ints,a0,b2,t3]
     exact⟨I3,by rw[ip3,ip],by rw[il3,il],R3⟩
   by_cases c7:s.k=7
   ·obtain⟨c1',c2',hc,g1,g2,g3,g4,g5,g6,g7⟩:=R2.top
    have tp:topP I=c1'.1:=by rw[<-et];unfold topP;rw[hc]
    have hlt:=lt_of g1
    have F1:=R2.frame (f':={ f with done:=true }) (st':=s2.set c1'.1 (.rows 0 3 [fRow { f with done:=true } c1'.2])) hc (fun i q1 q2=>List.getElem?_set_ne fun e=>q1 e.symm) (List.getElem?_set_self hlt) (by rw[List.getElem?_set_ne g4];exact g2)
    match l,hl with
    |[],hl=>
     have ep:actR fS s.k s.ref s.bd s.el [] (r2,f)=(r2,{ f with done:=true }):=by simp[actR,c7]
     rw[ep]
     simp[c7,paste,ExQ_endO,tp,g1,fRow,mayWrite,AV.allPure,AV.isPure,m3,m4,m5]
     exact⟨I2,ip,il,F1⟩
    |a::l',hl=>
     have ep:actR fS s.k s.ref s.bd s.el (a::l') (r2,f)=(r2,{ f with done:=true,res:=a }):=by simp[actR,c7,at0]
     rw[ep]
     have F2:=R2.frame (f':={ f with done:=true,res:=a }) (st':=s2.set c1'.1 (.rows 0 3 [fRow { f with done:=true,res:=a } c1'.2])) hc (fun i q1 q2=>List.getElem?_set_ne fun e=>q1 e.symm) (List.getElem?_set_self hlt) (by rw[List.getElem?_set_ne g4];exact g2)
     have hgs:∀y,(s2.set c1'.1 y)[c1'.1]?=some y:=fun y=>List.getElem?_set_self hlt
     have hss:∀y z,(s2.set c1'.1 y).set c1'.1 z=s2.set c1'.1 z:=fun y z=>List.set_set ..
     simp[c7,paste,ExQ_endO,tp,g1,fRow,cut,mayWrite,AV.allPure,AV.isPure,m3,m4,m5,m6,ints,hgs,hss]
     exact⟨I2,ip,il,F2⟩
   by_cases c8:s.k=8
   ·obtain⟨a,rfl⟩:∃a,l=[a]:=⟨_,len1 (by rw[hl];exact kl (by omega))⟩
    have m5':rowsL LV=[[.int .i64 a]]:=by rw[m5];rfl
    have ep:actR fS s.k s.ref s.bd s.el [a] (r2,f)=({ r2 with out:=r2.out++[a] },f):=by simp[actR,c8,at0]
    rw[ep]
    have hltp:=lt_of hP
    have hne:r2.out++[a]≠[]:=by simp
    have hol:r2.out.length<1000000:=by have:=G2.o;have:=G2.st;have:=K.fuel;have:=K.fu;omega
    by_cases h0:r2.out=[]
    ·have hpp:I2.p=I.p:=ip
     obtain⟨s3,hs3⟩:∃s,s=s2++[.rows 0 1 (ints [a])]:=⟨_,rfl⟩
     have P3:s3[I.p]?=some (.rows 0 14 [rRow T I2.s I2.iv I2.g r2.nf r2.e r2.code (outV r2 I2) r2.steps]):=by rw[hs3,List.getElem?_append_left hltp];exact hP
     have hfin:Rep T lim (f::L) { r2 with out:=r2.out++[a] } { I2 with o:=s2.length,ov:=0,lab:=fun j=>if j=s2.length then .o else I2.lab j } (s3.set I.p (.rows 0 14 [rRow T I2.s I2.iv I2.g r2.nf r2.e r2.code (.mu s2.length 0) r2.steps])):=by
      refine R2.printed hne (.inr (Nat.le_refl _)) (fun j hj hp _=>?_) ?_ ?_
      ·rw[List.getElem?_set_ne (by rw[<-ip];exact fun e=>hp e.symm),hs3,List.getElem?_append_left hj]
      ·rw[ip];exact List.getElem?_set_self (lt_of P3)
      ·rw[List.getElem?_set_ne (by omega),hs3,h0];simp
     have ho:outV r2 I2=.nilSl:=by unfold outV;rw[if_pos h0]
     rw[ho]at hP P3
     simp only[rRow]at hP P3 hfin
     have q3:s2++[.rows 0 1 [[.int .i64 a]]]=s3:=hs3.symm
     have hrm:(8:Nat)<=room:=by unfold room;omega
     simp[c8,paste,hP,cut,m5',m6,W_draw0,noBoxes,bringsOf,rowsOf,fits,hrm,q3,P3,mayWrite,AV.allPure,AV.isPure,ExQ_endO,h.lim_le]
     exact⟨_,by exact ip,by exact il,hfin⟩
    ·have hO:=R2.O h0
     have hoo:=R2.lo h0
     have hpo:I.p≠I2.o:=by rw[<-ip];exact ne_lab R2.lp hoo (by decide)
     have hlo:=R2.low _ (show I2.lab I2.o≠.no by rw[hoo];decide)
     obtain⟨s3,hs3⟩:∃s,s=s2.set I2.o (.rows (I2.ov+1) 1 (ints (r2.out++[a]))):=⟨_,rfl⟩
     have P3:s3[I.p]?=some (.rows 0 14 [rRow T I2.s I2.iv I2.g r2.nf r2.e r2.code (outV r2 I2) r2.steps]):=by rw[hs3,List.getElem?_set_ne hpo.symm];exact hP
     have hfin:Rep T lim (f::L) { r2 with out:=r2.out++[a] } { I2 with o:=I2.o,ov:=I2.ov+1,lab:=fun j=>if j=I2.o then .o else I2.lab j } (s3.set I.p (.rows 0 14 [rRow T I2.s I2.iv I2.g r2.nf r2.e r2.code (.mu I2.o (I2.ov+1)) r2.steps])):=by
      refine R2.printed hne (.inl ⟨h0,rfl⟩) (fun j hj hp hq=>?_) ?_ ?_
      ·rw[List.getElem?_set_ne (by rw[<-ip];exact fun e=>hp e.symm),hs3,List.getElem?_set_ne fun e=>hq h0 e.symm]
      ·rw[ip];exact List.getElem?_set_self (lt_of P3)
      ·rw[List.getElem?_set_ne hpo,hs3];exact List.getElem?_set_self (lt_of hO)
     have ho:outV r2 I2=.mu I2.o I2.ov:=by unfold outV;rw[if_neg h0]
     rw[ho]at hP P3
     simp only[rRow]at hP P3 hfin
     have q2:ints r2.out++[[.int .i64 a]]=ints (r2.out++[a]):=by simp[ints]
     have hrm:(r2.out.length+1)*8<=room:=by unfold room;omega
     simp[c8,paste,hP,hO,cut,m5',m6,W_draw0,noBoxes,bringsOf,rowsOf,fits,hrm,q2,hs3.symm,P3,mayWrite,AV.allPure,AV.isPure,ExQ_endO,h.lim_le]
     exact⟨_,by exact ip,by exact il,hfin⟩
   ·have ep:actR fS s.k s.ref s.bd s.el l (r2,f)=(r2,f):=by simp[actR,c2,c3,c5,c7,c8]
    rw[ep]
    simp[c2,c3,c5,c7,c8,ExQ_endO]
    exact⟨I2,ip,il,R2⟩
 ·rw[if_neg ho]at R1
  have hof:okR C r=false:=by cases hh:okR C r with|false=>rfl|true=>exact absurd hh ho
  rw[hof]at t1
  rw[if_neg (fun q=>ho q.1)]
  refine⟨s1,I,?_,rfl,rfl,R1⟩
  rw[Sm.row_eq]
  refine call_run (sf:=s78) rfl rfl rfl ?_
  generalize esV s.es=ES at *
  generalize ssV s.bd=BD at *
  generalize ssV s.el=EL at *
  simp[s78,e1,b1,l1,SOp.newBox,AV.view,c1,c6,t1]
  done
end E11
namespace E11
open Ax Go Code11 V7 Par Chk Run K9 S9
variable {T:Px}{C:Cx}{D:Dm}
theorem ev_hy (K:Prg T C D):∀n,Hy T C D n (ev C n).1 (ev C n).2
 |0=>by
  refine⟨(on_ev 0).1,(on_ev 0).2,(ev_gd 0).1,(ev_gd 0).2,?_,?_⟩
  ·exact expr_ok (fE:=fun _ _ r=>(0,stop r)) (fS:=fun _ x=>x) K (N:=0) (fun _ _ _ _=>rfl) (fun _ _ _ _ h=>absurd rfl h) (fun n h=>by cases h)
  ·refine stmt_ok (fE:=fun _ _ r=>(0,stop r)) (fS:=fun _ x=>x) K (N:=0) (fun s x=>?_) (fun n h=>by cases h)
   show (if s.k=1 then x else if s.k=6 then loopR C (fun _ _ r=>(0,stop r)) (fun _ x=>x) (es0 s.es) s.bd 0 x else (stop x.1,x.2):Rs×Fm)=_
   simp
 |n+1=>by
  have ih:=ev_hy K n
  refine⟨(on_ev (n+1)).1,(on_ev (n+1)).2,(ev_gd (n+1)).1,(ev_gd (n+1)).2,?_,?_⟩
  ·refine expr_ok (fE:=(ev C n).1) (fS:=(ev C n).2) K (N:=n+1) (fun e f r h=>?_) (fun e f r h _=>?_) (fun m h=>by cases h;exact ih)
   ·show (if okR C r=true then exprR C (ev C n).1 (ev C n).2 e f (tick r) else (0,stop r):Int×Rs)=_
    rw[if_neg (by rw[h];simp)]
   ·show (if okR C r=true then exprR C (ev C n).1 (ev C n).2 e f (tick r) else (0,stop r):Int×Rs)=_
    rw[if_pos h]
  ·refine stmt_ok (fE:=(ev C n).1) (fS:=(ev C n).2) K (N:=n+1) (fun s x=>?_) (fun m h=>by cases h;exact ih)
   show (if s.k=1 then x else if s.k=6 then loopR C (ev C n).1 (ev C n).2 (es0 s.es) s.bd (n+1) x
    else if okR C x.1=true then stmtR (ev C n).1 (ev C n).2 s (tick x.1,x.2) else (stop x.1,x.2):Rs×Fm)=_
   simp
end E11
namespace E11
open Ax Go Code11 V7 Par Chk Run K9 S9
theorem freezeLL_ints {wl:Nat}:∀(l:List Int)(st:Store),freezeLL wl (ints l) st=some (ints l,st)
 |[],st=>rfl
 |n::l,st=>by
  have ih:=freezeLL_ints (wl:=wl) l st
  simp only[ints,List.map_cons]at *
  simp[freezeLL,freezeL,freezeC,AV.isPure,AV.view,ih]
def outL (l:List Int):AV:=if l=[] then .nilSl else .lst 1 (ints l)
theorem out_frz {T:Px}{lim:Nat}{L:List Fm}{r:Rs}{I:Ids}{st:Store}(h:Rep T lim L r I st):∃st',freezeH 0 (outV r I) st=some (outL r.out,st')/\st'[I.p]?=st[I.p]?/\st'.length=st.length:=by
 unfold outL outV
 by_cases q:r.out=[]
 ·rw[if_pos q,if_pos q]
  exact⟨st,rfl,rfl,rfl⟩
 ·rw[if_neg q,if_neg q]
  have hO:=h.O q
  have hne:(ints r.out).isEmpty=false:=by
   cases hq:r.out with
   |nil=>exact absurd hq q
   |cons a b=>rfl
  have hpo:I.o≠I.p:=ne_lab (h.lo q) h.lp (by decide)
  refine⟨st.set I.o (.rows (I.ov+1) 1 []),?_,List.getElem?_set_ne hpo,by simp⟩
  show freezeV 0 (.mu I.o I.ov) st=_
  simp only[freezeV,hO,hne,freezeLL_ints]
  simp
theorem outL_pure (l:List Int):(outL l).isPure=true:=by
 unfold outL
 split<;>rfl
def behV (r:Rs):AV:=.agg [.int .i64 r.e,.int .i64 r.code,outL r.out,.int .i64 r.steps]
theorem behV_pure (r:Rs):(behV r).isPure=true:=by simp only[behV,AV.isPure,AV.allPure,outL_pure,Bool.and_self]
def cxOf (H:Hd)(bs:List Bd)(fuel:Nat):Cx:=⟨fuel,H.shapes.map (·.2.length),bs,H.globals.length⟩
def zeroR:Rs:=⟨[],[],[],0,0,0,[],0⟩
def semR (p:Pg)(inp:List Int)(fuel:Nat):Rs:=match sureO p with
 |some _=>zeroR
 |none=>match ckF (hdOf p) (hdOf p).sigs p.funcs with
  |.error _=>zeroR
  |.ok bs=>run (cxOf (hdOf p) bs fuel) (mainP p) inp
def lab0 (j:Nat):Lb:=if j=0 then .st else if j=1 then .p else if j=2 then .g else .no
open N7 U7 in
theorem run_ok (p:Pg){inp:AV}(hi:isI inp=true)(hno:notOwn inp=true)(fuel:Int)(hfu:fuel<1000000)
  (hg:(gdOf p).ok) (hsm:GD.sm (gdOf p)) (hsz:∀f∈p.funcs,f.params.length+Sm.szs f.body<1000000000)
  (hcode:∀bs,ckF (hdOf p) (hdOf p).sigs p.funcs=.ok bs->∀b∈bs,Sm.szs b.code<1000000000/\b.vars.length<1000000000)
  (hK:∀bs,sureO p=none->ckF (hdOf p) (hdOf p).sigs p.funcs=.ok bs->Prg ⟨hdOf p,mainP p,bs,fuel.toNat⟩ (cxOf (hdOf p) bs fuel.toNat) (dmOf (hdOf p))/\0<=mainP p/\(mainP p).toNat<bs.length)
  (wl li:Nat) (st:Store) :
  (orcL S).call wl li 12 [.agg p.row,inp,.int .i64 fuel] st=some (behV (semR p (dI inp) fuel.toNat),st):=by
 have ec:=fun wl lim st=>K9.check_ok wl lim p st hg hsm hsz
 have es:=fun wl lim st=>sure_ok wl lim p st hg hsm hsz hcode
 have hs:=isSl_I hi
 have hv:=view_notOwn hno hs
 have hpi:=pure_sl hs
 have nw:=fun wl li st=>U10.new_ok wl li st
 refine call_pure (sf:=s12) rfl rfl (by simp[Pg.row,AV.allPure,AV.isPure,hpi]) rfl (behV_pure _) ?_
 unfold typedV at ec
 unfold semR
 have r1:isSl (lstV 3 (p.recs.map Rc.row))=true:=isSl_lstV
 have r2:(lstV 3 (p.recs.map Rc.row)).view=lstV 3 (p.recs.map Rc.row):=view_lstV
 have f1:isSl (lstV 7 (p.funcs.map Fc.row))=true:=isSl_lstV
 have f2:(lstV 7 (p.funcs.map Fc.row)).view=lstV 7 (p.funcs.map Fc.row):=view_lstV
 have g1:isSl (lstV 4 (p.globals.map PD.cells))=true:=isSl_lstV
 have g2:(lstV 4 (p.globals.map PD.cells)).view=lstV 4 (p.globals.map PD.cells):=view_lstV
 simp only[Pg.row]at ec es ⊢
 generalize lstV 3 (p.recs.map Rc.row)=PR at *
 generalize lstV 7 (p.funcs.map Fc.row)=PF at *
 generalize lstV 4 (p.globals.map PD.cells)=PG at *
 cases hF:faultH (gdOf p) with
 |some a=>
  have hso:sureO p=some a:=by unfold sureO;rw[hF]
  rw[hF]at ec
  rw[hso]
  simp only[behV,zeroR,outL]at ec ⊢
  simp[s12,ec,r1,r2,f1,f2,g1,g2,paste,AV.view,oneOrAgg,cut]
  done
 |none=>
  rw[hF]at ec
  simp only at ec ⊢
  cases hR:ckF (hdOf p) (hdOf p).sigs p.funcs with
  |error a=>
   have hso:sureO p=some a:=by unfold sureO;rw[hF];simp only[hR]
   rw[hR]at ec
   rw[hso]
   simp only[behV,zeroR,outL,bodV]at ec ⊢
   simp[s12,ec,r1,r2,f1,f2,g1,g2,paste,AV.view,oneOrAgg,cut]
   done
  |ok bs=>
   rw[hR]at ec
   simp only[bodV,hdCells,List.cons_append,List.nil_append]at ec ⊢
   cases hO:sureO p with
   |some a=>
    rw[hO]at es
    simp only[behV,zeroR,outL,fltV]at es ⊢
    simp[s12,ec,es,r1,r2,f1,f2,g1,g2,paste,AV.view,oneOrAgg,cut,cE,cX]
    done
   |none=>
    rw[hO]at es
    simp only[fltV,cE,cX]at es
    obtain⟨K,hm0,hmb⟩:=hK bs hO hR
    have hrm:((hdOf p).globals.length:Int)*8<=room:=by have:=K.gl;unfold room;show ((dmOf (hdOf p)).ng:Int)*8<=_;omega
    have u1:isSl (fdsV (hdOf p).globals)=true:=isSl_fdsV
    have u2:(fdsV (hdOf p).globals).view=fdsV (hdOf p).globals:=view_fdsV
    have u3:rowsL (fdsV (hdOf p).globals)=(hdOf p).globals.map Vd.row:=rowsL_lstV
    have a1:isSl (lstV 2 ((hdOf p).shapes.map shRow))=true:=isSl_lstV
    have a2:(lstV 2 ((hdOf p).shapes.map shRow)).view=lstV 2 ((hdOf p).shapes.map shRow):=view_lstV
    have b1:isSl (lstV 6 ((hdOf p).sigs.map Sg.row))=true:=isSl_lstV
    have b2:(lstV 6 ((hdOf p).sigs.map Sg.row)).view=lstV 6 ((hdOf p).sigs.map Sg.row):=view_lstV
    have z1:isSl (lstV 3 (bs.map Bd.row))=true:=isSl_lstV
    have z2:(lstV 3 (bs.map Bd.row)).view=lstV 3 (bs.map Bd.row):=view_lstV
    simp[s12,ec,es,r1,r2,f1,f2,g1,g2,paste,AV.view,oneOrAgg,cut]
    rw[W_drawP]
    have hrc:∀n rows,(AV.raw n rows).cells=[.raw n rows]:=fun _ _=>rfl
    obtain⟨n,hn⟩:∃n:Nat,fuel.toNat=n:=⟨_,rfl⟩
    rw[hn]at K
    rw[hn]
    have hmx:(if fuel<0 then 0 else fuel)=(n:Int):=by split<;>omega
    have hri:∀n rows,(AV.raw n rows).isCell=true:=fun _ _=>rfl
    have hrep:List.replicate (hdOf p).globals.length [AV.int .i64 0]=ints (List.replicate (hdOf p).globals.length 0):=by simp[ints]
    generalize hHS:lstV 2 ((hdOf p).shapes.map shRow)=HS at *
    generalize hHG:lstV 6 ((hdOf p).sigs.map Sg.row)=HG at *
    generalize hGL:fdsV (hdOf p).globals=GL at *
    generalize hBV:lstV 3 (bs.map Bd.row)=BV at *
    simp[evalRec,pairOk,readsSame,boxOk,SOp.newBox,hs,u1,u2,u3,a1,a2,b1,b2,z1,z2,nw,hrm,hrc,hri,hmx,hrep,AV.allPure,AV.isPure,paste]
    refine⟨_,_,⟨rfl,rfl⟩,?_⟩
    simp[Ent.same,AV.same,u1,u3]
    rw[W_frzH]
    refine⟨1,0,0,0,_,.mu 2 0,_,_,rfl,rfl,rfl,rfl,?_⟩
    subst hHS hHG hGL hBV
    have R0:Rep ⟨hdOf p,mainP p,bs,n⟩ 0 [] (r0 (cxOf (hdOf p) bs n) (dI inp)) ⟨1,0,0,0,2,0,0,[],[],lab0,inp⟩ [.rows 0 1 [[.nilSl]],.rows 0 14 [rRow ⟨hdOf p,mainP p,bs,n⟩ 0 inp 2 0 0 0 .nilSl 0],.rows 0 1 (ints (List.replicate (hdOf p).globals.length 0))]:=by
     refine⟨rfl,⟨hi,hno,rfl⟩,?_,rfl,trivial,fun e=>absurd rfl e,rfl,rfl,fun e=>absurd rfl e,rfl,fun e=>absurd rfl e,by simp,by simp[idsF],by simp[idsF],fun _ _=>Nat.zero_le _⟩
     exact⟨rfl,by simp[r0],fun e=>absurd rfl e,fun k hk=>by simp at hk,fun e=>absurd rfl e,by simp,fun e=>absurd rfl e,by simp⟩
    have H:=ev_hy K (cxOf (hdOf p) bs n).fuel
    have G0:Gd (cxOf (hdOf p) bs n) 0 (r0 (cxOf (hdOf p) bs n) (dI inp)):=⟨by simp[r0],by simp[r0],by simp[r0,cxOf],by simp[r0],by simp[r0]⟩
    obtain⟨s1,I1,t1,ip,il,R1⟩:=call_ok K H (mainP p) [] R0 hm0 hmb (by simp) G0 (by simp[r0])
    have hl0:lstV 1 (ints ([]:List Int))=.nilSl:=rfl
    rw[hl0]at t1
    simp only at t1 ip
    unfold run
    generalize callR (cxOf (hdOf p) bs n) (ev (cxOf (hdOf p) bs n) (cxOf (hdOf p) bs n).fuel).2 (mainP p) [] (r0 (cxOf (hdOf p) bs n) (dI inp))=y at *
    obtain⟨y1,r1⟩:=y
    simp only at R1 t1 ⊢
    have en:=fun wl li=>ended_ok wl li R1
    rw[ip]at en
    have P1:=R1.P
    rw[ip]at P1
    simp only[rRow]at t1 P1
    push_cast at t1
    obtain⟨s2,hs2,R2⟩:∃s2,s2=(if r1.e=0 then s1.set 1 (.rows 0 14 [rRow ⟨hdOf p,mainP p,bs,n⟩ I1.s I1.iv I1.g r1.nf 1 r1.code (outV r1 I1) r1.steps]) else s1)/\Rep ⟨hdOf p,mainP p,bs,n⟩ 0 [] (endR r1) I1 s2:=by
     unfold endR
     by_cases e0:r1.e=0
     ·rw[if_pos e0,if_pos e0]
      refine⟨_,rfl,?_⟩
      rw[<-ip]
      exact R1.row { r1 with e:=1 } I1.iv rfl rfl rfl R1.iv
     ·rw[if_neg e0,if_neg e0]
      exact⟨_,rfl,R1⟩
    have P2:=R2.P
    rw[ip]at P2
    obtain⟨s4,o1,o2,o3⟩:=out_frz R2
    rw[ip]at o2
    have l1:1<s4.length:=by rw[o3];exact lt_of P2
    have P4:=o2.trans P2
    have ov:=outL_pure (endR r1).out
    have ow:(outL (endR r1).out).view=outL (endR r1).out:=by unfold outL;split<;>rfl
    have oc:(outL (endR r1).out).isCell=true:=by unfold outL;split<;>rfl
    obtain⟨s5,hs5⟩:∃s,s=s4.set 1 (.rows 0 14 [rRow ⟨hdOf p,mainP p,bs,n⟩ I1.s I1.iv I1.g (endR r1).nf (endR r1).e (endR r1).code (outL (endR r1).out) (endR r1).steps]):=⟨_,rfl⟩
    have P5:=List.getElem?_set_self (a:=AObj.rows 0 14 [rRow ⟨hdOf p,mainP p,bs,n⟩ I1.s I1.iv I1.g (endR r1).nf (endR r1).e (endR r1).code (outL (endR r1).out) (endR r1).steps]) l1
    rw[<-hs5]at P5
    simp only[rRow]at hs2 P2 P4 P5 hs5
    by_cases e0:r1.e=0
    ·rw[if_pos e0]at hs2
     simp[paste,t1,en,e0,P1,cut,mayWrite,AV.allPure,AV.isPure,<-hs2]
     rw[W_frzH]
     refine⟨1,0,0,0,_,_,s4,s5,rfl,?_,o1,?_,?_⟩
     ·simp[readP,P2,cut]
     ·simp[writeP,P4,mayWrite,paste,hs5]
     ·simp[cut,P5,ow,oc,AV.viewL,oneOrAgg,paste,behV]
    ·rw[if_neg e0]at hs2
     subst hs2
     simp[paste,t1,en,e0]
     rw[W_frzH]
     refine⟨1,0,0,0,_,_,s4,s5,rfl,?_,o1,?_,?_⟩
     ·simp[readP,P2,cut]
     ·simp[writeP,P4,mayWrite,paste,hs5]
     ·simp[cut,P5,ow,oc,AV.viewL,oneOrAgg,paste,behV]
end E11
namespace E11
open Ax Go Code11 V7 Par Chk Run K9 S9 N7 U7
theorem progS_small (s:List UInt8):∀f∈(progS s).1.funcs,Sm.szs f.body<=6001:=by
 unfold progS
 split
 ·rename_i hl
  generalize htp:U2.tokP s=z
  obtain⟨rows,e⟩:=z
  cases e with
  |some e=>intro f hf;cases hf
  |none=>
   obtain⟨hall,hlen⟩:=tok_all htp
   obtain⟨x,hx⟩:=some_progOf (tksOf rows)
   simp only
   rw[hx,Option.getD_some]
   have hTl:(tksOf rows).length=rows.length:=by simp[tksOf]
   intro f hf
   have:=size_prog hx f hf
   omega
 ·intro f hf;cases hf
theorem hd_par (p:Pg)(hp:Pg.In 6000 p):∀s∈(hdOf p).sigs,s.ps.length<=7:=by
 intro s hs
 obtain⟨f,hf,rfl⟩:=List.mem_map.1 hs
 have:=(hp.f.2 f hf).len
 simpa [sgOf,fdsOf] using this
structure Fine (p:Pg):Prop where
 inn:Pg.In 6000 p
 small:∀f∈p.funcs,Sm.szs f.body<=12010
theorem fine_progS (s:List UInt8):Fine (progS s).1:=⟨(progS_in s).1,fun f hf=>by have:=progS_small s f hf;omega⟩
theorem fine_sz {p:Pg}(h:Fine p):∀f∈p.funcs,f.params.length+Sm.szs f.body<1000000000:=fun f hf=>by
 have:=h.small f hf
 have:=(h.inn.f.2 f hf).len
 omega
theorem fine_code' {p:Pg}(h:Fine p):∀bs,ckF (hdOf p) (hdOf p).sigs p.funcs=.ok bs->∀b∈bs,Sm.szs b.code<=12010/\b.vars.length<=24020:=fun bs hR b hb=>by
 have hcs:=ckF_small hR h.small b hb
 have hvs:=ckF_vars (n:=12010) (hd_ok p) hR (fun s hs=>((hd_ok p).sigs s hs).2) (fun s hs=>by have:=hd_par p h.inn s hs;omega) h.small b hb
 omega
theorem mainI_lt {l:List FN}(h:¬mainI l<0):0<=mainI l/\(mainI l).toNat<l.length:=by
 unfold mainI at h ⊢
 split
 ·rename_i k hk
  have:=List.findIdx?_eq_some_iff_getElem.1 hk
  obtain⟨h1,_⟩:=this
  exact⟨by omega,by simpa using h1⟩
 ·rename_i hk;rw[hk]at h;simp at h
theorem fine_prg {p:Pg}(h:Fine p){fuel:Nat}(hfu:fuel<1000000){bs:List Bd}(hS:sureO p=none)(hR:ckF (hdOf p) (hdOf p).sigs p.funcs=.ok bs) :
  Prg ⟨hdOf p,mainP p,bs,fuel⟩ (cxOf (hdOf p) bs fuel) (dmOf (hdOf p))/\0<=mainP p/\(mainP p).toNat<bs.length:=by
 have hsl:(hdOf p).sigs.length=p.funcs.length:=by simp[hdOf]
 have hbl:=S9.ckF_len hsl hR
 have hrefs:=ckF_refs hR
 have hfl:=h.inn.f.1
 have hgl:=h.inn.g.1
 have hcode:=fine_code' h bs hR
 have hF:faultH (gdOf p)=none:=by
  unfold sureO at hS
  split at hS
  ·cases hS
  ·assumption
 have hm:¬mainP p<0:=by
  intro q
  unfold faultH at hF
  unfold mainP at q
  rw[if_pos q]at hF
  unfold orF at hF
  split at hF<;>cases hF
 have hm2:=mainI_lt hm
 refine⟨⟨rfl,hfu,rfl,rfl,rfl,?_,rfl,?_,?_,?_,?_,by show bs.length<_;omega⟩,hm2.1,?_⟩
 ·show (hdOf p).globals.length<1000000
  simp[hdOf,fdsOf];omega
 ·intro s hs
  obtain⟨r,hr,rfl⟩:=List.mem_map.1 hs
  have:=(h.inn.r.2 r hr).len
  simp[fdsOf];omega
 ·show ((hdOf p).sigs.map (·.ps.length)).length=bs.length
  simp[hsl,hbl]
 ·intro i h1 h2
  have h1':i<(hdOf p).sigs.length:=by simpa [dmOf] using h1
  have:=(hrefs i h1' h2).1
  simpa [dmOf] using this
 ·intro b hb
  obtain⟨i,hi,rfl⟩:=List.getElem_of_mem hb
  have hi:i<bs.length:=hi
  have hw:=ckF_wf (by simp[hdOf,namesOf]) hR _ hb
  have hr:=(hrefs i (by rw[hsl];omega) hi).2
  have:=hcode _ hb
  exact⟨hw,hr,by omega,by omega⟩
 ·have:=hm2.2
  rw[show (dFNs (gdOf p).funcs).length=p.funcs.length by rw[dFNs_gd,List.length_map]]at this
  show (mainI (dFNs (gdOf p).funcs)).toNat<bs.length
  omega
theorem run_fine {p:Pg}(h:Fine p){inp:AV}(hi:isI inp=true)(hno:notOwn inp=true)(fuel:Int)(hfu:fuel<1000000)(wl li:Nat)(st:Store) :
  (orcL S).call wl li 12 [.agg p.row,inp,.int .i64 fuel] st=some (behV (semR p (Ax.dI inp) fuel.toNat),st):=
 run_ok p hi hno fuel hfu (gd_ok h.inn) (gd_sm h.inn) (fine_sz h) (fun bs hR b hb=>by have:=fine_code' h bs hR b hb;omega) (fun bs hS hR=>fine_prg h (by omega) hS hR) wl li st
def same (a b:List Int)(k:Nat):Prop:=∀j,j<k->a[j]?=b[j]?
theorem same_all {a b:List Int}(h:a.length=b.length)(hs:same a b a.length):a=b:=by
 apply List.ext_getElem?
 intro j
 by_cases hj:j<a.length
 ·exact hs j hj
 ·rw[List.getElem?_eq_none (by omega),List.getElem?_eq_none (by omega)]
theorem ints_ok (wl li:Nat){a b:AV}(ha:isI a=true)(hb:isI b=true)(hla:(dI a).length<1000000000)(st:Store):(orcL S).call wl li 17 [a,b] st=some (.bool (decide (dI a=dI b)),st):=by
 have sa:=isSl_I ha
 have sb:=isSl_I hb
 have za:=isSz_I ha
 have zb:=isSz_I hb
 have la:=rowsL_I ha
 have lb:=rowsL_I hb
 have pa:=pure_sl sa
 have pb:=pure_sl sb
 refine call_pure (sf:=s17) rfl rfl (by rw[AV.allPure,pa,AV.allPure,pb];rfl) rfl rfl ?_
 by_cases hl:(dI a).length=(dI b).length
 ·simp[s17,sa,sb,la,lb,hl]
  refine W_loopI s17_l0.eq_1 (fun k:Nat=>⟨[(0,.val a),(1,.val b),(5,.val (.int .i64 k))],[],[]⟩)
   (fun k=>k<=(dI a).length/\same (dI a) (dI b) k) (fun k=>(dI a).length-k) 0 (by simp) ⟨by omega,fun _ h=>by omega⟩ ?_
  intro k ⟨hk,hs⟩ ih
  by_cases hlt:k<(dI a).length
  ·have hlt2:k<(dI b).length:=by omega
   have hw:IntKind.i64.wrap ((k:Int)+1)=((k+1:Nat):Int):=by rw[wrap64]<;>omega
   by_cases hq:(dI a)[k]=(dI b)[k]
   ·simp[sa,za,zb,la,lb,hlt2,hl,hq,hw,W_draw0,noBoxes]
    exact ih (k+1) ⟨by omega,fun j hj=>by
     by_cases e:j=k
     ·subst e;rw[List.getElem?_eq_getElem hlt,List.getElem?_eq_getElem hlt2,hq]
     ·exact hs j (by omega)⟩ (by omega)
   ·have hne:¬dI a=dI b:=fun e=>hq (by simp only[e])
    simp[sa,za,zb,la,lb,hlt2,hl,hq,hne,W_draw0,noBoxes]
  ·have hkl:k=(dI a).length:=by omega
   have he:dI a=dI b:=same_all hl (hkl ▸ hs)
   rw[show decide (dI a=dI b)=true from decide_eq_true he]
   simp[sa,la,hlt]
 ·have hne:¬dI a=dI b:=fun e=>hl (by rw[e])
  simp[s17,sa,sb,la,lb,hl,hne]
theorem outL_I (l:List Int):isI (outL l)=true/\dI (outL l)=l:=by
 unfold outL
 by_cases h:l=[]
 ·rw[if_pos h,h];exact⟨rfl,rfl⟩
 ·rw[if_neg h]
  refine⟨?_,?_⟩
  ·simp[isI,ints,fits]
  ·simp only[Ax.dI,rowsL];exact dI_ints l
end E11
