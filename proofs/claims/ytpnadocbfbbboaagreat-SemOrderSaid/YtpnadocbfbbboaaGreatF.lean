/-
  The values of expressions, a block, a call.
-/
import Derived.Test.YtpnadocbfbbboaaGreatE
import Derived.Test.YtpnadocbfbbboaaGreatS
import Derived.Test.YtpnadocbfbbboaaGreatR

set_option maxRecDepth 100000
set_option maxHeartbeats 4000000
namespace E11
open Ax Go Code11 V7 Par Chk Run K9 S9
structure Prg (T:Px)(C:Cx)(D:Dm):Prop where
 fuel:C.fuel=T.fu
 fu:T.fu<1000000
 bs:C.bs=T.bs
 recs:C.recs=T.H.shapes.map (·.2.length)
 ng:C.ng=D.ng
 gl:D.ng<1000000
 nr:D.nr=T.H.shapes.length
 rs:∀s∈T.H.shapes,s.2.length<1000000
 ps:D.ps.length=T.bs.length
 pv:∀(i:Nat) (h:i<D.ps.length) (h2:i<T.bs.length),D.ps[i]<=T.bs[i].vars.length
 wb:∀b∈T.bs,WB D b.code/\refB b.vars.length b.code/\Sm.szs b.code<1000000000/\b.vars.length<1000000
 nb:T.bs.length<1000000000
def topP (I:Ids):Nat:=match I.fl with|a::_=>a.1 | []=>0
def PE (T:Px)(C:Cx)(D:Dm)(n:Nat)(fE:E->Fm->Rs->Int×Rs):Prop:=∀(lim:Nat)(L:List Fm)(r:Rs)(I:Ids)(st:Store)(f:Fm)(e:E),Rep T lim (f::L) r I st->WE D e->refE f.vs.length e->E.sz e<1000000000->Gd C 0 r->C.fuel<=r.steps+n->
 ∃st' I',(orcL S).call 0 lim 123 [.ptr I.p 0 0 0,.ptr (topP I) 0 0 0,.agg e.row] st=some (.int .i64 (fE e f r).1,st')/\I'.p=I.p/\I'.fl=I.fl/\Rep T lim (f::L) (fE e f r).2 I' st'
def PS (T:Px)(C:Cx)(D:Dm)(n:Nat)(fS:Sm->Rs×Fm->Rs×Fm):Prop:=∀(lim:Nat)(L:List Fm)(r:Rs)(I:Ids)(st:Store)(f:Fm)(s:Sm),Rep T lim (f::L) r I st->WS D s->refS f.vs.length s->Sm.sz s<1000000000->Gd C 0 r->C.fuel<=r.steps+n->
 ∃st' I',(orcL S).call 0 lim 78 [.ptr I.p 0 0 0,.ptr (topP I) 0 0 0,.agg s.row] st=some (.tup [],st')/\I'.p=I.p/\I'.fl=I.fl/\Rep T lim ((fS s (r,f)).2::L) (fS s (r,f)).1 I' st'
structure Hy (T:Px)(C:Cx)(D:Dm)(n:Nat)(fE:E->Fm->Rs->Int×Rs)(fS:Sm->Rs×Fm->Rs×Fm):Prop where
 oE:∀e f r,On r (fE e f r).2
 oS:∀s x,On x.1 (fS s x).1
 gE:GE C fE
 gS:GS C fS
 E:PE T C D n fE
 S:PS T C D n fS
variable {T:Px}{C:Cx}{D:Dm}{n:Nat}{fE:E->Fm->Rs->Int×Rs}{fS:Sm->Rs×Fm->Rs×Fm}{lim:Nat}{L:List Fm}{r:Rs}{I:Ids}{st st':Store}{f:Fm}
def preV (a:List Int)(x:Option (List Int)×Rs):Option (List Int)×Rs:=match x with|(some l,r)=>(some (a++l),r)|(none,r)=>(none,r)
def valsV (x:Option (List Int)):AV:=match x with|some l=>.tup [mkL 1 (ints l),.bool true]|none=>.tup [.nilSl,.bool false]
theorem vals_cons {e:E}{l:List E}:vals fE f (e::l) r=if (fE e f r).2.e≠0 then (none,(fE e f r).2) else match vals fE f l (fE e f r).2 with
  |(some vs,r2)=>(some ((fE e f r).1::vs),r2)
  |(none,r2)=>(none,r2):=rfl
theorem runB_cons {s:Sm}{l:List Sm}{x:Rs×Fm}:runB fS (s::l) x=if x.2.done=true\/x.1.e≠0 then x else runB fS l (fS s x):=rfl
theorem vals_ok (H:Hy T C D n fE fS)(l:List E)(h:Rep T lim (f::L) r I st)(hw:WL D l)(hr:refL f.vs.length l)(hsz:E.szs l<1000000000)(hG:Gd C 0 r)(hn:C.fuel<=r.steps+n) :
  ∃st' I',(orcL S).call 0 lim 100 [.ptr I.p 0 0 0,.ptr (topP I) 0 0 0,esV l] st=some (valsV (vals fE f l r).1,st')/\I'.p=I.p/\I'.fl=I.fl/\Rep T lim (f::L) (vals fE f l r).2 I' st':=by
 have hz:isSz 11 (esV l)=true:=isSz_E
 have hsl:isSl (esV l)=true:=isSl_esV
 have hvw:(esV l).view=esV l:=view_esV
 have hrE:rowsL (esV l)=E.rows l:=rowsL_lstV
 have hlen:=E.szs_len l
 rw[WL_iff]at hw
 rw[refL_iff]at hr
 obtain⟨v',st',h1,rfl,I',h2⟩:∃v' st',(orcL S).call 0 lim 100 [.ptr I.p 0 0 0,.ptr (topP I) 0 0 0,esV l] st=some (v',st')/\v'=valsV (vals fE f l r).1/\∃I',I'.p=I.p/\I'.fl=I.fl/\Rep T lim (f::L) (vals fE f l r).2 I' st':=by
  refine call_ex (sf:=s100) rfl rfl rfl ?_
  generalize esV l=lv at *
  simp[s100,hsl,hvw,hrE]
  refine W_loopI s100_l0.eq_1 (fun x:Nat×List Int×Rs×Ids×Store×List AV=>⟨[(0,.val (.ptr I.p 0 0 0)),(1,.val (.ptr (topP I) 0 0 0)),(8,.val (mkL 1 (ints x.2.1))),(11,.val lv),(12,.val (.int .i64 l.length)),(13,.val (.int .i64 x.1))],[x.2.2.2.2.2],x.2.2.2.2.1⟩)
   (fun x=>x.1<=l.length/\x.2.1.length=x.1/\preV x.2.1 (vals fE f (l.drop x.1) x.2.2.1)=vals fE f l r/\x.2.2.2.1.p=I.p/\x.2.2.2.1.fl=I.fl/\Rep T lim (f::L) x.2.2.1 x.2.2.2.1 x.2.2.2.2.1/\Gd C 0 x.2.2.1/\C.fuel<=x.2.2.1.steps+n) (fun x=>l.length-x.1) (0,[],r,I,st,[]) (by simp[mkL,ints]) ⟨by simp,rfl,?_,rfl,rfl,h,hG,hn⟩ ?_
  ·simp only[List.drop_zero]
   rcases vals fE f l r with⟨_|v,y⟩<;>rfl
  rintro⟨k,acc,r1,I1,s1,b⟩ ⟨hk,hacc,hp,ip,il,h1,g1,n1⟩ ih
  simp only at hk hacc hp ip il h1 g1 n1 ih
  by_cases hlt:k<l.length
  ·have hwr:IntKind.i64.wrap ((k:Int)+1)=((k+1:Nat):Int):=by rw[wrap64]<;>omega
   have hm:=List.getElem_mem hlt
   obtain⟨s2,I2,hcall,ip2,il2,h2⟩:=H.E lim L r1 I1 s1 f l[k] h1 (hw _ hm) (hr _ hm) (by have:=E.szs_mem hm;omega) g1 n1
   have hon:=H.oE l[k] f r1
   have g2:=(H.gE 0 l[k] f r1 g1).1
   have et:topP I1=topP I:=by unfold topP;rw[il]
   rw[et,ip]at hcall
   rw[List.drop_eq_getElem_cons hlt,vals_cons]at hp
   have gE:=E_get hlt
   have hlt':k<(E.rows l).length:=by simpa [Erows_map] using hlt
   have gE':=E_get' hlt hlt'
   have e1:isSl (esV l[k].kids)=true:=isSl_esV
   have e2:(esV l[k].kids).view=esV l[k].kids:=view_esV
   have en:=fun wl li=>ended_ok wl li h2
   rw[ip2,ip]at en
   have hap:appV 1 8 (mkL 1 (ints acc)) [[.int .i64 (fE l[k] f r1).1]]=some (mkL 1 (ints (acc++[(fE l[k] f r1).1]))):=by
    rw[appV_mk (by rfl) (by simp[room];omega)];simp
   rw[E.row_eq]at hcall gE gE'
   by_cases q:(fE l[k] f r1).2.e=0
   ·rw[if_neg (by simpa using q)]at hp
    have hp':preV (acc++[(fE l[k] f r1).1]) (vals fE f (l.drop (k+1)) (fE l[k] f r1).2)=vals fE f l r:=by
     rw[<-hp]
     rcases vals fE f (l.drop (k+1)) (fE l[k] f r1).2 with⟨_|v,y⟩
     ·rfl
     ·simp[preV]
    have ih':=fun b=>ih (k+1,acc++[(fE l[k] f r1).1],(fE l[k] f r1).2,I2,s2,b) ⟨by simp only;omega,by simp[hacc],hp',by rw[ip2,ip],by rw[il2,il],h2,g2,by have:=hon.st;simp only;omega⟩ (by simp only;omega)
    simp only at ih'
    generalize fE l[k] f r1=y at *
    generalize l[k]=x at *
    generalize esV x.kids=xe at *
    have g0:isSl (mkL 1 (ints acc))=true:=isSl_mk
    have g1:isSl (mkL 1 (ints (acc++[y.1])))=true:=isSl_mk
    generalize mkL 1 (ints (acc++[y.1]))=m1 at *
    generalize mkL 1 (ints acc)=m0 at *
    simp[hlt,hwr,hz,hvw,hrE,gE',hcall,e1,e2,en,q,hap,paste,AV.view]
    exact ih' _
   ·rw[if_pos (by simpa using q)]at hp
    have hp':vals fE f l r=(none,(fE l[k] f r1).2):=by rw[<-hp];rfl
    rw[hp']
    generalize fE l[k] f r1=y at *
    generalize l[k]=x at *
    generalize esV x.kids=xe at *
    have g0:isSl (mkL 1 (ints acc))=true:=isSl_mk
    have g1:isSl (mkL 1 (ints (acc++[y.1])))=true:=isSl_mk
    generalize mkL 1 (ints (acc++[y.1]))=m1 at *
    generalize mkL 1 (ints acc)=m0 at *
    simp[hlt,hz,hvw,hrE,gE',hcall,e1,e2,en,q,hap,paste,AV.view,ExQ_retO]
    exact⟨rfl,I2,by rw[ip2,ip],by rw[il2,il],h2⟩
  ·have hkl:k=l.length:=by omega
   rw[hkl,List.drop_length]at hp
   have hp':vals fE f l r=(some acc,r1):=by rw[<-hp];simp[vals,preV]
   rw[hp']
   have g0:isSl (mkL 1 (ints acc))=true:=isSl_mk
   have hvl:valsV (some acc)=.tup [mkL 1 (ints acc),.bool true]:=rfl
   simp only[hvl]
   generalize mkL 1 (ints acc)=m0 at *
   simp[hlt,ExQ_retO]
   exact⟨I1,ip,il,h1⟩
 exact⟨st',I',h1,h2⟩
theorem block_ok (H:Hy T C D n fE fS)(l:List Sm)(h:Rep T lim (f::L) r I st)(hw:WB D l)(hr:refB f.vs.length l)(hsz:Sm.szs l<1000000000)(hG:Gd C 0 r)(hn:C.fuel<=r.steps+n) :
  ∃st' I',(orcL S).call 0 lim 49 [.ptr I.p 0 0 0,.ptr (topP I) 0 0 0,ssV l] st=some (.tup [],st')/\I'.p=I.p/\I'.fl=I.fl/\Rep T lim ((runB fS l (r,f)).2::L) (runB fS l (r,f)).1 I' st':=by
 have hz:isSz 9 (ssV l)=true:=isSz_Sm
 have hsl:isSl (ssV l)=true:=isSl_ssV
 have hvw:(ssV l).view=ssV l:=view_ssV
 have hrE:rowsL (ssV l)=Sm.rows l:=rowsL_lstV
 have hlen:=Sm.szs_len l
 rw[WB_iff]at hw
 rw[refB_iff]at hr
 obtain⟨v',st',h1,rfl,I',h2⟩:∃v' st',(orcL S).call 0 lim 49 [.ptr I.p 0 0 0,.ptr (topP I) 0 0 0,ssV l] st=some (v',st')/\v'=.tup []/\∃I',I'.p=I.p/\I'.fl=I.fl/\Rep T lim ((runB fS l (r,f)).2::L) (runB fS l (r,f)).1 I' st':=by
  refine call_ex (sf:=s49) rfl rfl rfl ?_
  generalize ssV l=lv at *
  simp[s49,hsl,hvw,hrE]
  refine W_loopI s49_l0.eq_1 (fun x:Nat×(Rs×Fm)×Ids×Store×List AV=>⟨[(0,.val (.ptr I.p 0 0 0)),(1,.val (.ptr (topP I) 0 0 0)),(8,.val lv),(9,.val (.int .i64 l.length)),(10,.val (.int .i64 x.1))],[x.2.2.2.2],x.2.2.2.1⟩)
   (fun x=>x.1<=l.length/\runB fS (l.drop x.1) x.2.1=runB fS l (r,f)/\x.2.2.1.p=I.p/\x.2.2.1.fl=I.fl/\Rep T lim (x.2.1.2::L) x.2.1.1 x.2.2.1 x.2.2.2.1/\Gd C 0 x.2.1.1/\x.2.1.2.vs.length=f.vs.length/\C.fuel<=x.2.1.1.steps+n) (fun x=>l.length-x.1) (0,(r,f),I,st,[]) (by simp) ⟨by simp,by simp,rfl,rfl,h,hG,rfl,hn⟩ ?_
  rintro⟨k,⟨r1,f1⟩,I1,s1,b⟩ ⟨hk,hp,ip,il,h1,g1,v1,n1⟩ ih
  simp only at hk hp ip il h1 g1 v1 n1 ih
  by_cases hlt:k<l.length
  ·have hwr:IntKind.i64.wrap ((k:Int)+1)=((k+1:Nat):Int):=by rw[wrap64]<;>omega
   have hm:=List.getElem_mem hlt
   have gE:=Sm_get hlt
   have hlt':k<(Sm.rows l).length:=by simpa using hlt
   have gE':=Sm_get' hlt hlt'
   obtain⟨e1,b1,l1⟩:isSl (esV l[k].es)=true/\isSl (ssV l[k].bd)=true/\isSl (ssV l[k].el)=true:=⟨isSl_esV,isSl_ssV,isSl_ssV⟩
   have e2:(esV l[k].es).view=esV l[k].es:=view_esV
   have b2:(ssV l[k].bd).view=ssV l[k].bd:=view_ssV
   have l2:(ssV l[k].el).view=ssV l[k].el:=view_ssV
   have et:topP I1=topP I:=by unfold topP;rw[il]
   have en:=fun wl li=>ended_ok wl li h1
   rw[ip]at en
   obtain⟨c1,c2,hc,t1,t2,t3⟩:=h1.top
   have tp:topP I=c1.1:=by rw[<-et];unfold topP;rw[hc]
   rw[List.drop_eq_getElem_cons hlt,runB_cons]at hp
   by_cases q:f1.done=true\/r1.e≠0
   ·rw[if_pos q]at hp
    rw[<-hp]
    rw[Sm.row_eq]at gE gE'
    generalize l[k]=x at *
    generalize esV x.es=xe at *
    generalize ssV x.bd=xb at *
    generalize ssV x.el=xl at *
    by_cases qd:f1.done=true
    ·simp[hlt,hz,hvw,hrE,gE',e1,b1,l1,e2,b2,l2,tp,t1,fRow,cut,qd,paste,AV.view,ExQ_retO]
     exact⟨I1,ip,il,h1⟩
    ·have qe:r1.e≠0:=by rcases q with q|q;exact absurd q qd;exact q
     simp[hlt,hz,hvw,hrE,gE',e1,b1,l1,e2,b2,l2,tp,t1,fRow,cut,qd,qe,en,paste,AV.view,ExQ_retO]
     exact⟨I1,ip,il,h1⟩
   ·rw[if_neg q]at hp
    obtain⟨s2,I2,hcall,ip2,il2,h2⟩:=H.S lim L r1 I1 s1 f1 l[k] h1 (hw _ hm) (by rw[v1];exact hr _ hm) (by have:=Sm.szs_mem hm;omega) g1 n1
    have hon:=H.oS l[k] (r1,f1)
    obtain⟨g2,_,v2⟩:=H.gS 0 l[k] (r1,f1) g1
    rw[et,ip]at hcall
    have qd:f1.done=false:=by cases hd:f1.done with|false=>rfl|true=>exact absurd (.inl hd) q
    have qe:r1.e=0:=Decidable.byContradiction fun c=>q (.inr c)
    have ih':=fun b=>ih (k+1,fS l[k] (r1,f1),I2,s2,b) ⟨by simp only;omega,hp,by rw[ip2,ip],by rw[il2,il],h2,g2,by simp only at v2 ⊢;rw[v2,v1],by have:=hon.st;simp only at this ⊢;omega⟩ (by simp only;omega)
    simp only at ih'
    rw[Sm.row_eq]at hcall gE gE'
    generalize l[k]=x at *
    generalize esV x.es=xe at *
    generalize ssV x.bd=xb at *
    generalize ssV x.el=xl at *
    rw[tp]at hcall
    simp[hlt,hwr,hz,hvw,hrE,gE',hcall,e1,b1,l1,e2,b2,l2,tp,t1,fRow,cut,qd,qe,en,paste,AV.view]
    rw[<-tp]
    exact ih' _
  ·have hkl:k=l.length:=by omega
   rw[hkl,List.drop_length]at hp
   have hp':runB fS l (r,f)=(r1,f1):=by rw[<-hp];rfl
   rw[hp']
   simp[hlt,ExQ_endO]
   exact⟨I1,ip,il,h1⟩
 exact⟨st',I',h1,h2⟩
end E11
namespace E11
open Ax Go Code11 V7 Par Chk Run K9 S9
variable {T:Px}{C:Cx}{D:Dm}{n:Nat}{fE:E->Fm->Rs->Int×Rs}{fS:Sm->Rs×Fm->Rs×Fm}{lim:Nat}{L:List Fm}{r:Rs}{I:Ids}{st st':Store}{f:Fm}
theorem a_copyI {lim id v:Nat}{old new:List Int}{st:Store}{bx:Boxes}(h:st[id]?=some (.rows v 1 (ints old)))(hn:new.length<=old.length) :
  act0 0 lim (.copy 1) [.val (.mu id v),.val (lstV 1 (ints new))] st bx=some (.val (.int .i64 new.length),st.set id (.rows v 1 (ints (new++old.drop new.length))),bx):=by
 have hf:fits 1 (ints new)=true:=by simp[fits,ints]
 have hp:(ints new).all AV.allPure=true:=by simp[ints,AV.allPure,AV.isPure]
 have hb:bringsOf st (lstV 1 (ints new))=some (ints new):=by
  cases new with
  |nil=>rfl
  |cons a b=>rfl
 simp only[act0,h,hb]
 simp[hf,hp,hn]
theorem call_ok (K:Prg T C D)(H:Hy T C D n fE fS)(i:Int)(l:List Int)(h:Rep T lim L r I st)(hi:0<=i)(hb:i.toNat<T.bs.length)(hl:l.length<=(T.bs[i.toNat]).vars.length)(hG:Gd C 0 r)(hn:C.fuel<=r.steps+n) :
  ∃st' I',(orcL S).call 0 lim 30 [.ptr I.p 0 0 0,.int .i64 i,lstV 1 (ints l)] st=some (.int .i64 (callR C fS i l r).1,st')/\I'.p=I.p/\I'.fl=I.fl/\Rep T lim L (callR C fS i l r).2 I' st':=by
 have hP:=h.P
 have hnf:=hG.nf
 by_cases h40:40<=r.nf
 ·obtain⟨s1,l1,t1,r1⟩:=trap_ok h 6
  have ec:callR C fS i l r=(0,trapR r 6):=by unfold callR;rw[if_pos h40]
  rw[ec]
  have c40:(40:Int)<=(r.nf:Int):=by omega
  refine⟨s1,I,?_,rfl,rfl,r1⟩
  refine call_run (sf:=s30) rfl rfl rfl ?_
  simp[s30,hP,rRow,cut,c40,t1]
 ·obtain⟨k,rfl⟩:∃k:Nat,i=k:=⟨i.toNat,by omega⟩
  have hk:k<T.bs.length:=by omega
  simp only[Int.toNat_natCast]at hl hb
  obtain⟨w1,w2,w3,w4⟩:=K.wb _ (List.getElem_mem hk)
  have egd:C.bs.getD k B0=T.bs[k]:=by rw[K.bs];simp[hk]
  have c40:¬(40:Int)<=(r.nf:Int):=by omega
  have hw1:IntKind.i64.wrap ((r.nf:Int)+1)=((r.nf+1:Nat):Int):=by rw[wrap64]<;>omega
  have R1:=h.row { r with nf:=r.nf+1 } I.iv rfl rfl rfl h.iv
  obtain⟨s1,hs1⟩:∃s,s=st.set I.p (.rows 0 14 [rRow T I.s I.iv I.g (r.nf+1) r.e r.code (outV r I) r.steps]):=⟨_,rfl⟩
  have R1':Rep T lim L { r with nf:=r.nf+1 } I s1:=by rw[hs1];exact R1
  have P1:=R1'.P
  obtain⟨s2,hs2⟩:∃s,s=s1++[.rows 0 1 (ints (List.replicate T.bs[k].vars.length 0)),.rows 0 3 [fRow ⟨[],0,false⟩ s1.length]]:=⟨_,rfl⟩
  have P2:s2[I.p]?=some (.rows 0 14 [rRow T I.s I.iv I.g (r.nf+1) r.e r.code (outV r I) r.steps]):=by rw[hs2,List.getElem?_append_left (lt_of P1)];exact P1
  have v2:s2[s1.length]?=some (.rows 0 1 (ints (List.replicate T.bs[k].vars.length 0))):=by rw[hs2];simp
  have f2:s2[s1.length+1]?=some (.rows 0 3 [fRow ⟨[],0,false⟩ s1.length]):=by rw[hs2];simp
  have cp:=fun li bx=>a_copyI (lim:=li) (bx:=bx) (new:=l) v2 (by simpa using hl)
  have hcpv:l++(List.replicate T.bs[k].vars.length (0:Int)).drop l.length=l++List.replicate (T.bs[k].vars.length-l.length) 0:=by rw[List.drop_replicate]
  rw[hcpv]at cp
  obtain⟨s3,hs3⟩:∃s,s=s2.set s1.length (.rows 0 1 (ints (l++List.replicate (T.bs[k].vars.length-l.length) 0))):=⟨_,rfl⟩
  rw[<-hs3]at cp
  have o3:∀j,j<s1.length->s3[j]?=s1[j]?:=fun j hj=>by rw[hs3,List.getElem?_set_ne (by omega),hs2,List.getElem?_append_left hj]
  have f3:s3[s1.length+1]?=some (.rows 0 3 [fRow ⟨[],0,false⟩ s1.length]):=by rw[hs3,List.getElem?_set_ne (by omega)];exact f2
  have v3:s3[s1.length]?=some (.rows 0 1 (ints (l++List.replicate (T.bs[k].vars.length-l.length) 0))):=by rw[hs3];exact List.getElem?_set_self (lt_of v2)
  have P3:s3[I.p]?=some (.rows 0 14 [rRow T I.s I.iv I.g (r.nf+1) r.e r.code (outV r I) r.steps]):=by rw[o3 _ (lt_of P1)];exact P1
  have R3:=R1'.push (a:=s1.length) (b:=s1.length+1) (g:=⟨l++List.replicate (T.bs[k].vars.length-l.length) 0,0,false⟩) o3 (Nat.le_refl _) (by omega) (by omega) f3 v3
  have G3:Gd C 0 { r with nf:=r.nf+1 }:=⟨hG.s,hG.o,hG.g,hG.st,by show r.nf+1<=40;omega⟩
  have hvl:(l++List.replicate (T.bs[k].vars.length-l.length) (0:Int)).length=T.bs[k].vars.length:=by simp;omega
  have hrf:refB (l++List.replicate (T.bs[k].vars.length-l.length) (0:Int)).length T.bs[k].code:=by rw[hvl];exact w2
  obtain⟨s4,I4,hcall,ip,il,R4⟩:=block_ok H T.bs[k].code R3 w1 hrf w3 G3 hn
  simp only[topP]at hcall
  have ec:callR C fS (k:Int) l r=((runB fS T.bs[k].code ({ r with nf:=r.nf+1 },⟨l++List.replicate (T.bs[k].vars.length-l.length) 0,0,false⟩)).2.res,{ (runB fS T.bs[k].code ({ r with nf:=r.nf+1 },⟨l++List.replicate (T.bs[k].vars.length-l.length) 0,0,false⟩)).1 with nf:=(runB fS T.bs[k].code ({ r with nf:=r.nf+1 },⟨l++List.replicate (T.bs[k].vars.length-l.length) 0,0,false⟩)).1.nf-1 }):=by
   unfold callR
   rw[if_neg h40,Int.toNat_natCast,egd]
  have G4:=runB_gd H.gS T.bs[k].code 0 ({ r with nf:=r.nf+1 },⟨l++List.replicate (T.bs[k].vars.length-l.length) 0,0,false⟩) G3
  rw[ec]
  generalize runB fS T.bs[k].code ({ r with nf:=r.nf+1 },⟨l++List.replicate (T.bs[k].vars.length-l.length) 0,0,false⟩)=y at *
  obtain⟨y1,y2⟩:=y
  simp only at R4 G4 ⊢
  obtain⟨_,G4n,_⟩:=G4
  have P4:=R4.P
  obtain⟨c1,c2,hc,t1,t2,t3,t4,t5,t6,t7⟩:=R4.top
  rw[il]at hc
  cases hc
  simp only at t1 t2 t4 t5
  have R5:=R4.pop (by rw[il])
  have R6:=R5.row { y1 with nf:=y1.nf-1 } I4.iv rfl rfl rfl R4.iv
  have hw2:IntKind.i64.wrap ((y1.nf:Int)-1)=((y1.nf-1:Nat):Int):=by rw[wrap64]<;>omega
  have hne:I4.p≠s1.length+1:=ne_lab R4.lp t5 (by decide)
  rw[ip]at P4 hne
  simp only at P4 hne
  obtain⟨s5,hs5⟩:∃s,s=s4.set I.p (.rows 0 14 [rRow T I4.s I4.iv I4.g (y1.nf-1) y1.e y1.code (outV y1 I4) y1.steps]):=⟨_,rfl⟩
  have f5:s5[s1.length+1]?=some (.rows 0 3 [fRow y2 s1.length]):=by rw[hs5,List.getElem?_set_ne hne];exact t1
  refine⟨s5,{ I4 with fl:=I.fl },?_,ip,rfl,by rw[hs5,<-ip];exact R6⟩
  have hlp:=h.lim_le
  have hgl:(T.bs.map Bd.row)[k]?=some [fdsV T.bs[k].vars,ssV T.bs[k].code,.int .i64 T.bs[k].a]:=by simp[hk,Bd.row]
  have hkm:k<(T.bs.map Bd.row).length:=by simpa using hk
  have hgl':(T.bs.map Bd.row)[k]=[fdsV T.bs[k].vars,ssV T.bs[k].code,.int .i64 T.bs[k].a]:=by simp[Bd.row]
  have z1:isSl (fdsV T.bs[k].vars)=true:=isSl_fdsV
  have z2:(fdsV T.bs[k].vars).view=fdsV T.bs[k].vars:=view_fdsV
  have z3:isSl (ssV T.bs[k].code)=true:=isSl_ssV
  have z4:(ssV T.bs[k].code).view=ssV T.bs[k].code:=view_ssV
  have z5:rowsL (fdsV T.bs[k].vars)=T.bs[k].vars.map Vd.row:=rowsL_lstV
  have b1:isSz 3 (lstV 3 (T.bs.map Bd.row))=true:=isSz_lst (by simp[fits,Bd.row])
  have b2:(lstV 3 (T.bs.map Bd.row)).view=lstV 3 (T.bs.map Bd.row):=view_lstV
  have b3:rowsL (lstV 3 (T.bs.map Bd.row))=T.bs.map Bd.row:=rowsL_lstV
  have b4:isSl (lstV 3 (T.bs.map Bd.row))=true:=isSl_lstV
  have a1:isSl (lstV 1 (ints l))=true:=isSl_lstV
  have a2:(lstV 1 (ints l)).view=lstV 1 (ints l):=view_lstV
  have hroom:(T.bs[k].vars.length:Int)*8<=room:=by unfold room;omega
  have hint:List.replicate T.bs[k].vars.length [AV.int .i64 0]=ints (List.replicate T.bs[k].vars.length 0):=by simp[ints]
  simp only[rRow]at hP P1 P2 P3 P4 hs1 hs5
  simp only[fRow]at hs2 f2 f3 f5
  push_cast at P1 P2 P3 hs1
  refine call_run (sf:=s30) rfl rfl rfl ?_
  generalize lstV 3 (T.bs.map Bd.row)=BV at *
  generalize lstV 1 (ints l)=AL at *
  have q2:s1++[.rows 0 1 (ints (List.replicate T.bs[k].vars.length 0)),.rows 0 3 [[.mu s1.length 0,.int .i64 0,.bool false]]]=s2:=hs2.symm
  have hgs4:∀y,(s4.set I.p y)[s1.length+1]?=s4[s1.length+1]?:=fun y=>List.getElem?_set_ne hne
  simp only[fRow]at t1
  simp[s30,hP,cut,c40,hw1,hs1.symm,P1,b1,b2,b3,hk,hgl',hroom,hint,q2,f2,cp,P3,z4,hcall,P4,hw2,hs5.symm,f5]
end E11
namespace E11
open Ax Go Code11 V7 Par Chk Run K9 S9
variable {T:Px}{C:Cx}{D:Dm}{n:Nat}{fE:E->Fm->Rs->Int×Rs}{fS:Sm->Rs×Fm->Rs×Fm}{lim:Nat}{L:List Fm}{r:Rs}{I:Ids}{st st':Store}{f:Fm}
theorem vals_len:∀{l:List E}{r:Rs}{vs:List Int}{r2:Rs},vals fE f l r=(some vs,r2)->vs.length=l.length
 |[],r,vs,r2,e=>by unfold vals at e;cases e;rfl
 |x::l,r,vs,r2,e=>by
  unfold vals at e
  split at e
  ·cases e
  ·split at e
   ·rename_i h2
    cases e
    simp[vals_len h2]
   ·cases e
theorem len1 {l:List Int}(h:l.length=1):l=[at0 l]:=by
 match l,h with
 |[a],_=>rfl
theorem len2 {l:List Int}(h:l.length=2):l=[at0 l,at1 l]:=by
 match l,h with
 |[a,b],_=>rfl
theorem var_ok (h:Rep T lim (f::L) r I st){ref:Int}(h1:ref<f.vs.length)(h2 : -1-ref<r.g.length)(hb:r.g.length<1000000) :
  ∃j k,(∀wl li,(orcL S).call wl li 101 [.ptr I.p 0 0 0,.ptr (topP I) 0 0 0,.int .i64 ref] st=some (.ptr j 0 k 0,st))/\st[j]?=some (.rows 0 1 (ints (if ref<0 then r.g else f.vs)))/\(ints (if ref<0 then r.g else f.vs))[k]?=some [.int .i64 (Run.varV f r ref)]:=by
 obtain⟨a,b,ha,t1,t2,_⟩:=h.top
 have et:topP I=a.1:=by unfold topP;rw[ha]
 rw[et]
 by_cases q:ref<0
 ·obtain⟨k,rfl⟩:∃k:Nat,ref = -1-(k:Int):=⟨(-1-ref).toNat,by omega⟩
  have hk:k<r.g.length:=by omega
  refine⟨I.g,k,fun wl li=>var_g wl li h _ hk hb,by rw[if_pos q];exact h.G,?_⟩
  have e:(-1-(-1-(k:Int))).toNat=k:=by omega
  unfold Run.varV
  rw[if_pos q,if_pos q,e]
  simp[ints,hk]
 ·obtain⟨k,rfl⟩:∃k:Nat,ref=(k:Int):=⟨ref.toNat,by omega⟩
  have hk:k<f.vs.length:=by omega
  refine⟨a.2,k,fun wl li=>var_v wl li h ha hk,by rw[if_neg q];exact t2,?_⟩
  unfold Run.varV
  rw[if_neg q,if_neg q]
  simp[ints,hk]
theorem expr_ok (K:Prg T C D){N:Nat}{gE:E->Fm->Rs->Int×Rs}(hno:∀e f r,okR C r=false->gE e f r=(0,stop r))(hyes:∀e f r,okR C r=true->N≠0->gE e f r=exprR C fE fS e f (tick r))
  (HN:∀n,N=n+1->Hy T C D n fE fS):PE T C D N gE:=by
 intro lim L r I st f e h hw hr hsz hG hn
 obtain⟨s1,l1,t1,R1⟩:=step_ok h (by have:=K.fu;omega) C K.fuel
 have e1:isSl (esV e.kids)=true:=isSl_esV
 have e2:(esV e.kids).view=esV e.kids:=view_esV
 rw[E.row_eq]
 by_cases ho:okR C r=true
 ·rw[if_pos ho]at R1
  obtain⟨n,rfl⟩:∃n,N=n+1:=⟨N-1,by have:=(okR_iff.1 ho).2;omega⟩
  have H:=HN n rfl
  rw[hyes _ _ _ ho (by omega)]
  rw[ho]at t1
  have G1:Gd C 1 (tick r):=hG.tick ho
  have G0:Gd C 0 (tick r):=G1.less (by omega)
  have hn1:C.fuel<=(tick r).steps+n:=by show C.fuel<=r.steps+1+n;omega
  rw[WE_eq]at hw
  rw[refE_eq]at hr
  have hsk:=E.sz_kids e
  obtain⟨s2,I2,t2,ip,il,R2⟩:=vals_ok H e.kids R1 hw.2 hr.2 (by omega) G0 hn1
  have hon:=on_vals H.oE f e.kids (tick r)
  have G2:=(vals_gd H.gE f e.kids 1 (tick r) G1).1
  have hte:(tick r).e=0:=(okR_iff.1 ho).1
  cases hv:vals fE f e.kids (tick r) with
  |mk o r2=>
  rw[hv]at t2 R2 hon G2
  simp only at R2 hon G2
  have hlen:∀l,o=some l->l.length=e.kids.length:=fun l hl=>vals_len (by rw[hv,hl])
  have he0:∀l,o=some l->r2.e=0:=fun l hl=>vals_e0 (fE:=fE) (f:=f) e.kids (tick r) hte l r2 (by rw[hv,hl])
  cases o with
  |none=>
   have ex:exprR C fE fS e f (tick r)=(0,r2):=by unfold exprR;rw[hv]
   rw[ex]
   refine⟨s2,I2,?_,ip,il,R2⟩
   refine call_run (sf:=s123) rfl rfl rfl ?_
   simp only[valsV]at t2
   generalize esV e.kids=KV at *
   simp[s123,t1,t2,e1,e2,SOp.newBox,AV.view]
  |some l=>
   have ex:exprR C fE fS e f (tick r)=prim C (callR C fS) e.k e.n e.ref e.ty.r f l r2:=by unfold exprR;rw[hv]
   rw[ex]
   have hl:=hlen l rfl
   have hz0:=he0 l rfl
   obtain⟨⟨k1,k24⟩,kg,k1a,k2a,kc,kn,kf⟩:=hw.1
   have hkr:=hr.1
   have hP:=R2.P
   have hS2:r2.s.length<1000000:=by have:=G2.s;have:=G2.st;have:=K.fuel;have:=K.fu;omega
   have hg2:=G2.g
   have et:topP I2=topP I:=by unfold topP;rw[il]
   rw[ip]at hP
   have m1:isSl (mkL 1 (ints l))=true:=isSl_mk
   have m2:(mkL 1 (ints l)).view=lstV 1 (ints l):=rfl
   have m3:isSl (lstV 1 (ints l))=true:=isSl_lstV
   have m4:(lstV 1 (ints l)).view=lstV 1 (ints l):=view_lstV
   have m5:rowsL (lstV 1 (ints l))=ints l:=rowsL_lstV
   have m6:isSz 1 (lstV 1 (ints l))=true:=isSz_lst (by simp[fits,ints])
   obtain⟨v',st',h1,rfl,h2⟩:∃v' st',(orcL S).call 0 lim 123 [.ptr I.p 0 0 0,.ptr (topP I) 0 0 0,.agg [.int .i64 e.k,.int .i64 e.n,.str e.nm,.str e.on,.int .i64 e.od,esV e.kids,.int .i64 e.a,.int .i64 e.ty.b,.int .i64 e.ty.r,.int .i64 e.ty.d,.int .i64 e.ref]] st=some (v',st')/\
     v'=.int .i64 (prim C (callR C fS) e.k e.n e.ref e.ty.r f l r2).1/\∃I',I'.p=I.p/\I'.fl=I.fl/\Rep T lim (f::L) (prim C (callR C fS) e.k e.n e.ref e.ty.r f l r2).2 I' st':=by
    refine call_ex (sf:=s123) rfl rfl rfl ?_
    simp only[valsV]at t2
    generalize esV e.kids=KV at *
    generalize mkL 1 (ints l)=MV at *
    generalize hLV:lstV 1 (ints l)=LV at *
    simp[s123,t1,t2,e1,e2,m2,SOp.newBox,AV.view]
    by_cases c1:e.k=1
    ·have ep:prim C (callR C fS) e.k e.n e.ref e.ty.r f l r2=(e.n,r2):=by simp[prim,c1]
     rw[ep]
     simp[c1,ExQ_retO]
     exact⟨I2,ip,il,R2⟩
    by_cases c2:e.k=2
    ·have ep:prim C (callR C fS) e.k e.n e.ref e.ty.r f l r2=(e.n,r2):=by simp[prim,c2]
     rw[ep]
     simp[c2,ExQ_retO]
     exact⟨I2,ip,il,R2⟩
    by_cases c4:e.k=4
    ·have ep:prim C (callR C fS) e.k e.n e.ref e.ty.r f l r2=(Run.varV f r2 e.ref,r2):=by simp[prim,c4]
     rw[ep]
     have hgl:=K.gl
     obtain⟨j,k,v1,v2,v3⟩:=var_ok R2 (hkr c4) (by rw[hg2,K.ng];exact kg c4) (by rw[hg2,K.ng];exact hgl)
     rw[et,ip]at v1
     generalize ints (if e.ref<0 then r2.g else f.vs)=G at *
     simp[c4,ExQ_retO,v1,v2,cut,v3]
     exact⟨I2,ip,il,R2⟩
    by_cases c5:e.k=5
    ·obtain⟨a,rfl⟩:∃a,l=[a]:=⟨_,len1 (by rw[hl];exact k1a (.inl c5))⟩
     have ep:prim C (callR C fS) e.k e.n e.ref e.ty.r f [a] r2=gotR r2 (loadS r2.s a e.ref):=by simp[prim,c5,at0]
     rw[ep]
     have ld:=fun wl li=>ld_ok wl li R2 hS2 a e.ref
     obtain⟨s3,l3,t3,R3⟩:=got_ok R2 (loadS r2.s a e.ref).1 (loadS r2.s a e.ref).2
     rw[ip]at t3
     simp[c5,ExQ_retO,W_draw0,noBoxes,hP,rRow,cut,m5,m6,ints,ld,t3]
     exact⟨rfl,I2,ip,il,R3⟩
    by_cases c6:e.k=6
    ·obtain⟨a,b,rfl⟩:∃a b,l=[a,b]:=⟨_,_,len2 (by rw[hl];exact k2a (.inl c6))⟩
     have ep:prim C (callR C fS) e.k e.n e.ref e.ty.r f [a,b] r2=gotR r2 (loadS r2.s a b):=by simp[prim,c6,at0,at1]
     rw[ep]
     have ld:=fun wl li=>ld_ok wl li R2 hS2 a b
     obtain⟨s3,l3,t3,R3⟩:=got_ok R2 (loadS r2.s a b).1 (loadS r2.s a b).2
     rw[ip]at t3
     simp[c6,ExQ_retO,W_draw0,noBoxes,hP,rRow,cut,m5,m6,ints,ld,t3]
     exact⟨rfl,I2,ip,il,R3⟩
    by_cases c10:e.k=10
    ·obtain⟨a,rfl⟩:∃a,l=[a]:=⟨_,len1 (by rw[hl];exact k1a (by omega))⟩
     have ep:prim C (callR C fS) e.k e.n e.ref e.ty.r f [a] r2=gotR r2 (lenS r2.s a):=by simp[prim,c10,at0]
     rw[ep]
     have ld:=fun wl li=>len_ok wl li R2 hS2 a
     obtain⟨s3,l3,t3,R3⟩:=got_ok R2 (lenS r2.s a).1 (lenS r2.s a).2
     rw[ip]at t3
     simp[c10,ExQ_retO,W_draw0,noBoxes,hP,rRow,cut,m5,m6,ints,ld,t3]
     exact⟨rfl,I2,ip,il,R3⟩
    by_cases c8:e.k=8
    ·have ep:prim C (callR C fS) e.k e.n e.ref e.ty.r f l r2=newR r2 (clampN (C.recs.getD e.ty.r.toNat 0:Nat)):=by simp[prim,c8]
     rw[ep]
     obtain⟨kn1,kn2⟩:=kn c8
     rw[K.nr]at kn2
     obtain⟨q,hq⟩:∃q:Nat,e.ty.r=q:=⟨e.ty.r.toNat,by omega⟩
     have hq2:q<T.H.shapes.length:=by omega
     have eq1:C.recs.getD e.ty.r.toNat 0=T.H.shapes[q].2.length:=by rw[K.recs,hq];simp[hq2]
     rw[eq1]
     obtain⟨s3,I3,l3,t3,ip3,il3,R3⟩:=rec_ok R2 hS2 (T.H.shapes[q].2.length:Nat)
     have b1:isSz 2 (lstV 2 (T.H.shapes.map shRow))=true:=isSz_lst (by simp[fits,shRow])
     have b2:(lstV 2 (T.H.shapes.map shRow)).view=lstV 2 (T.H.shapes.map shRow):=view_lstV
     have b3:rowsL (lstV 2 (T.H.shapes.map shRow))=T.H.shapes.map shRow:=rowsL_lstV
     have z1:isSl (fdsV T.H.shapes[q].2)=true:=isSl_fdsV
     have z2:(fdsV T.H.shapes[q].2).view=fdsV T.H.shapes[q].2:=view_fdsV
     have z5:rowsL (fdsV T.H.shapes[q].2)=T.H.shapes[q].2.map Vd.row:=rowsL_lstV
     simp only[rRow]at hP
     generalize lstV 2 (T.H.shapes.map shRow)=BV at *
     simp[c8,ExQ_retO,W_draw0,noBoxes,hP,cut,hq,b1,b2,b3,hq2,shRow,z1,z2,z5,t3]
     exact⟨I3,by rw[ip3,ip],by rw[il3,il],R3⟩
    by_cases c9:e.k=9
    ·obtain⟨a,rfl⟩:∃a,l=[a]:=⟨_,len1 (by rw[hl];exact k1a (by omega))⟩
     have ep:prim C (callR C fS) e.k e.n e.ref e.ty.r f [a] r2=makeR r2 a:=by simp[prim,c9,at0]
     rw[ep]
     obtain⟨s3,I3,v,c,l3,t3,ip3,il3,R3⟩:=arr_ok R2 hS2 a
     rcases R3 with⟨rfl,rfl,ha,R3⟩|⟨rfl,ha,rfl,R3⟩
     ·obtain⟨s4,l4,t4,R4⟩:=got_ok R3 0 4
      rw[ip3,ip]at t4
      have em:makeR r2 a=(0,trapR r2 4):=by unfold makeR;rw[if_pos ha]
      rw[em]
      simp[c9,ExQ_retO,W_draw0,noBoxes,hP,rRow,cut,m5,m6,ints,t3,t4]
      exact⟨I3,by rw[ip3,ip],by rw[il3,il],R4⟩
     ·obtain⟨s4,l4,t4,R4⟩:=got_ok R3 (newR r2 a.toNat).1 0
      rw[ip3,ip]at t4
      have em:makeR r2 a=newR r2 a.toNat:=by unfold makeR;rw[if_neg ha]
      rw[em]
      simp[c9,ExQ_retO,W_draw0,noBoxes,hP,rRow,cut,m5,m6,ints,t3,t4]
      exact⟨I3,by rw[ip3,ip],by rw[il3,il],R4⟩
    by_cases c11:e.k=11
    ·have ep:prim C (callR C fS) e.k e.n e.ref e.ty.r f l r2=readR r2:=by simp[prim,c11]
     rw[ep]
     obtain⟨s3,I3,l3,t3,ip3,il3,R3⟩:=read_ok R2
     rw[ip]at t3
     simp[c11,ExQ_retO,t3]
     exact⟨I3,by rw[ip3,ip],by rw[il3,il],R3⟩
    by_cases c7:e.k=7
    ·have ep:prim C (callR C fS) e.k e.n e.ref e.ty.r f l r2=callR C fS e.ref l r2:=by simp[prim,c7]
     rw[ep]
     obtain⟨kc1,kc2,kc3⟩:=kc c7
     have hb:e.ref.toNat<T.bs.length:=by rw[<-K.ps];exact kc2
     obtain⟨s3,I3,t3,ip3,il3,R3⟩:=call_ok K H e.ref l R2 kc1 hb (by rw[hl,kc3];exact K.pv _ kc2 hb) (G2.less (by omega)) (by have:=hon.st;omega)
     rw[ip,hLV]at t3
     simp[c7,ExQ_retO,t3]
     exact⟨I3,by rw[ip3,ip],by rw[il3,il],R3⟩
    by_cases c3:e.k=3
    ·have ep:prim C (callR C fS) e.k e.n e.ref e.ty.r f l r2=(0,r2):=by simp[prim,c3]
     rw[ep]
     simp[c3,ExQ_retO]
     exact⟨I2,ip,il,R2⟩
    by_cases c12:e.k=12
    ·obtain⟨a,rfl⟩:∃a,l=[a]:=⟨_,len1 (by rw[hl];exact k1a (by omega))⟩
     have ep:prim C (callR C fS) e.k e.n e.ref e.ty.r f [a] r2=(unI 12 a,r2):=by simp[prim,c12,at0]
     rw[ep]
     have un:=fun wl li st=>un_ok wl li 12 a st
     simp[c12,ExQ_retO,W_draw0,noBoxes,m5,m6,ints,un]
     exact⟨I2,ip,il,R2⟩
    by_cases c13:e.k=13
    ·obtain⟨a,rfl⟩:∃a,l=[a]:=⟨_,len1 (by rw[hl];exact k1a (by omega))⟩
     have ep:prim C (callR C fS) e.k e.n e.ref e.ty.r f [a] r2=(unI 13 a,r2):=by simp[prim,c13,at0]
     rw[ep]
     have un:=fun wl li st=>un_ok wl li 13 a st
     simp[c13,ExQ_retO,W_draw0,noBoxes,m5,m6,ints,un]
     exact⟨I2,ip,il,R2⟩
    ·obtain⟨a,b,rfl⟩:∃a b,l=[a,b]:=⟨_,_,len2 (by rw[hl];exact k2a (by omega))⟩
     have ep:prim C (callR C fS) e.k e.n e.ref e.ty.r f [a,b] r2=gotR r2 (binI e.k a b):=by simp[prim,c1,c2,c3,c4,c5,c6,c7,c8,c9,c10,c11,c12,c13,at0,at1]
     rw[ep]
     have bi:=fun wl li st=>bin_ok wl li e.k a b st
     obtain⟨s3,l3,t3,R3⟩:=got_ok R2 (binI e.k a b).1 (binI e.k a b).2
     rw[ip]at t3
     simp[c1,c2,c3,c4,c5,c6,c7,c8,c9,c10,c11,c12,c13,ExQ_retO,W_draw0,noBoxes,m5,m6,ints,bi,t3]
     exact⟨rfl,I2,ip,il,R3⟩
   obtain⟨I',h3⟩:=h2
   exact⟨st',I',h1,h3⟩
 ·rw[if_neg ho]at R1
  have hof:okR C r=false:=by cases hh:okR C r with|false=>rfl|true=>exact absurd hh ho
  rw[hno _ _ _ hof]
  rw[hof]at t1
  refine⟨s1,I,?_,rfl,rfl,R1⟩
  refine call_run (sf:=s123) rfl rfl rfl ?_
  generalize esV e.kids=KV at *
  simp[s123,t1,e1,SOp.newBox,AV.view]
end E11
namespace E11
open Ax Go Code11 V7 Par Chk Run K9 S9
variable {T:Px}{C:Cx}{D:Dm}{n:Nat}{fE:E->Fm->Rs->Int×Rs}{fS:Sm->Rs×Fm->Rs×Fm}{lim:Nat}{L:List Fm}{r:Rs}{I:Ids}{st st':Store}{f:Fm}
def ev0:List AV:=[.int .i64 0,.int .i64 0,.str [],.str [],.int .i64 0,.nilSl,.int .i64 0,.int .i64 0,.int .i64 0,.int .i64 0,.int .i64 0]
theorem grow_ok (li:Nat)(n:Nat)(h0:0<n)(h1:n<1000000)(st:Store):(orcL S).call 0 li 155 [.nilSl,.int .i64 n] st=some (.mu st.length 1,st++[.rows 1 11 []]):=by
 have h2:n*120<=room:=by unfold room;omega
 have hn0:¬(n:Int)<0:=by omega
 have h0':0<(n:Int):=by omega
 have hw:IntKind.i64.wrap (n:Int)=n:=by rw[wrap64]<;>omega
 have hw0:IntKind.i64.wrap (0:Int)=0:=by rw[wrap64]<;>omega
 have sl:sliceV false 11 .nilSl 0 0 none=some .nilSl:=rfl
 have az:act0 0 li (.appendZ 11 120 ev0) [.val .nilSl,.val (.int .i64 n)] st []=some (.val (.mu st.length 0),st++[.rows 0 11 (List.replicate n ev0)],[]):=by
  have hne:n≠0:=by omega
  have h3:(n:Int)*120<=room:=by omega
  simp[act0,appM,fits,ev0,h2,h3,hne,AV.allPure,AV.isPure]
 unfold ev0 at az
 refine call_run (sf:=s155) rfl rfl rfl ?_
 simp[s155,h0,hn0,hw,hw0,sl,az]
 done
theorem esV_app (a b:List E)(ha:a≠[]):esV (a++b)=.lst 11 (E.rows a++E.rows b):=by
 have e:∀l:List E,E.rows l=l.map E.row:=fun l=>by
  induction l with
  |nil=>rfl
  |cons x l ih=>simp[E.rows,ih]
 cases a with
 |nil=>exact absurd rfl ha
 |cons x l=>
  have:E.rows (x::l++b)=E.rows (x::l)++E.rows b:=by rw[e,e,e,List.map_append]
  unfold esV
  rw[this]
  simp[lstV,E.rows]
  rfl
theorem freezeL_row {wl:Nat}(y:E){st:Store}:freezeL wl y.row st=some (y.row,st):=by
 have h4:freezeC wl (esV y.kids) st=some (esV y.kids,st):=by
  unfold esV lstV mkL
  cases hE:E.rows y.kids with
  |nil=>rfl
  |cons a b=>rfl
 rw[E.row_eq]
 generalize esV y.kids=v at *
 have hi:∀n,freezeC wl (.int .i64 n) st=some (.int .i64 n,st):=fun n=>rfl
 have hs:∀n,freezeC wl (.str n) st=some (.str n,st):=fun n=>rfl
 simp[freezeL,h4,hi,hs]
theorem freezeLL_E {wl:Nat}(st:Store):∀l:List E,freezeLL wl (l.map E.row) st=some (l.map E.row,st)
 |[]=>rfl
 |e::l=>by
  show (match freezeL wl e.row st with|some (r',st')=>(match freezeLL wl (l.map E.row) st' with|some (l',st'')=>some (r'::l',st'')|none=>none)|none=>none)=_
  rw[freezeL_row]
  simp only
  rw[freezeLL_E st l]
  rfl
theorem concat_ok (a b:List E)(ha:a≠[])(hn:a.length+b.length<1000000)(wl li:Nat)(st:Store) :
  (orcL S).call wl li 124 [.lst 1 [[esV a],[esV b]]] st=some (esV (a++b),st):=by
 have ha0:0<a.length:=List.length_pos_iff.2 ha
 have a1:isSl (esV a)=true:=isSl_esV
 have a2:(esV a).view=esV a:=view_esV
 have a3:rowsL (esV a)=E.rows a:=rowsL_lstV
 have a4:isSz 11 (esV a)=true:=isSz_E
 have b1:isSl (esV b)=true:=isSl_esV
 have b2:(esV b).view=esV b:=view_esV
 have b3:rowsL (esV b)=E.rows b:=rowsL_lstV
 have b4:isSz 11 (esV b)=true:=isSz_E
 have la:(E.rows a).length=a.length:=by simp
 have lb:(E.rows b).length=b.length:=by simp
 have gr:=fun li=>grow_ok li (a.length+b.length) (by omega) hn []
 push_cast at gr
 rw[esV_app a b ha]
 have w1:IntKind.i64.wrap (a.length:Int)=a.length:=by rw[wrap64]<;>omega
 have w2:IntKind.i64.wrap ((a.length:Int)+b.length)=(a.length:Int)+b.length:=by rw[wrap64]<;>omega
 have n1:¬(a.length:Int)<0:=by omega
 have n2:¬(a.length:Int)+b.length<0:=by omega
 refine call_pure (sf:=s124) rfl rfl (by simp[*]) rfl (by simp[*]) ?_
 generalize esV a=A at *
 generalize esV b=B at *
 simp[s124]
 have u1:IntKind.i64.wrap (1:Int)=1:=by rw[wrap64]<;>omega
 have u2:IntKind.i64.wrap (2:Int)=2:=by rw[wrap64]<;>omega
 rw[W_loop]
 simp[s124_l0,a1,a2,a3,w1,n1,u1]
 rw[W_again,W_loop]
 simp[b1,b2,b3,w2,n2,u2]
 rw[W_again,W_loop]
 simp[gr]
 rw[W_loop]
 have fa:fits 11 (E.rows a)=true:=by simp[fits,Erows_map,E.row_eq]
 have fb:fits 11 (E.rows b)=true:=by simp[fits,Erows_map,E.row_eq]
 have r1:a.length*120<=room:=by unfold room;omega
 have r2:(a.length+b.length)*120<=room:=by unfold room;omega
 simp[s124_l1,a1,a2,a3,u1,fa,r1]
 rw[W_again,W_loop]
 simp[b1,b2,b3,u2,fb,r2]
 rw[W_again,W_loop]
 simp
 rw[W_frz]
 have hne:E.rows a≠[]:=by
  intro q
  have:=congrArg List.length q
  simp at this
  exact ha this
 have hfz:=freezeLL_E (wl:=0) [.rows 4 11 []] (a++b)
 rw[List.map_append,<-Erows_map,<-Erows_map]at hfz
 refine⟨.mu 0 3,.lst 11 (E.rows a++E.rows b),[.rows 4 11 []],rfl,?_,?_⟩
 ·simp[freezeV,hne,hfz]
  done
 ·simp
  done
theorem len3 {l:List Int}(h:l.length=3):l=[at0 l,at1 l,at2 l]:=by
 match l,h with
 |[a,b,c],_=>rfl
theorem put_ok (K:Prg T C D)(H:Hy T C D n fE fS)(s:Sm)(a b:E)(hes:s.es=[a,b])(hab:(a.k=5/\a.kids.length=1)\/(a.k=6/\a.kids.length=2))(h:Rep T lim (f::L) r I st)(hw:WL D (a.kids++[b]))(hr:refL f.vs.length (a.kids++[b]))(hsz:E.szs (a.kids++[b])<1000000000)
  (hG:Gd C 0 r) (hn:C.fuel<=r.steps+n) (he:r.e=0) :
  ∃st' I',(orcL S).call 0 lim 99 [.ptr I.p 0 0 0,.ptr (topP I) 0 0 0,.agg s.row] st=some (.tup [],st')/\I'.p=I.p/\I'.fl=I.fl/\
   Rep T lim (f::L) (match vals fE f (a.kids++[b]) r with|(none,r)=>(r,f)|(some l,r)=>putR (r,f) a.k a.ref l).1 I' st':=by
 have e1:isSl (esV s.es)=true:=isSl_esV
 have e2:(esV s.es).view=esV s.es:=view_esV
 have e3:rowsL (esV s.es)=E.rows s.es:=rowsL_lstV
 have e4:isSz 11 (esV s.es)=true:=isSz_E
 have b1:isSl (ssV s.bd)=true:=isSl_ssV
 have b2:(ssV s.bd).view=ssV s.bd:=view_ssV
 have l1:isSl (ssV s.el)=true:=isSl_ssV
 have l2:(ssV s.el).view=ssV s.el:=view_ssV
 have er:E.rows s.es=[a.row,b.row]:=by rw[hes];simp[E.rows]
 have k1:isSl (esV a.kids)=true:=isSl_esV
 have k2:(esV a.kids).view=esV a.kids:=view_esV
 rw[er]at e3
 have hne:a.kids≠[]:=by
  intro q
  rw[q]at hab
  simp at hab
 have hcc:=fun wl li st=>concat_ok a.kids [b] hne (by simp;rcases hab with⟨_,q⟩|⟨_,q⟩<;>omega) wl li st
 have hb1:esV [b]=.lst 11 [b.row]:=rfl
 rw[hb1]at hcc
 obtain⟨s2,I2,t2,ip,il,R2⟩:=vals_ok H (a.kids++[b]) h hw hr hsz hG hn
 have G2:=(vals_gd H.gE f (a.kids++[b]) 0 r hG).1
 cases hv:vals fE f (a.kids++[b]) r with
 |mk o r2=>
 have hlen:∀l,o=some l->l.length=(a.kids++[b]).length:=fun l hl=>vals_len (by rw[hv,hl])
 have he0:∀l,o=some l->r2.e=0:=fun l hl=>vals_e0 (fE:=fE) (f:=f) (a.kids++[b]) r he l r2 (by rw[hv,hl])
 rw[hv]at t2 R2 G2
 simp only at R2 G2
 rw[E.row_eq a]at e3
 rw[Sm.row_eq]
 have sb:(subV (esV s.es) 1 2).view=.lst 11 [b.row]:=by
  unfold esV lstV
  rw[er]
  rfl
 have v1:isSl (esV (a.kids++[b]))=true:=isSl_esV
 have v2:(esV (a.kids++[b])).view=esV (a.kids++[b]):=view_esV
 cases o with
 |none=>
  refine⟨s2,I2,?_,ip,il,R2⟩
  simp only[valsV]at t2
  refine call_run (sf:=s99) rfl rfl rfl ?_
  generalize esV s.es=ES at *
  generalize ssV s.bd=BD at *
  generalize ssV s.el=EL at *
  generalize esV a.kids=KV at *
  generalize esV (a.kids++[b])=CV at *
  simp[s99,e1,e2,e3,e4,b1,l1,k1,k2,sb,hcc,t2,SOp.newBox,AV.view,W_draw0,noBoxes]
  done
 |some l=>
  have hl:=hlen l rfl
  have hz0:=he0 l rfl
  have hP:=R2.P
  have hS2:r2.s.length<1000000:=by have:=G2.s;have:=G2.st;have:=K.fuel;have:=K.fu;omega
  rw[ip]at hP
  have m1:isSl (mkL 1 (ints l))=true:=isSl_mk
  have m2:(mkL 1 (ints l)).view=lstV 1 (ints l):=rfl
  have m3:isSl (lstV 1 (ints l))=true:=isSl_lstV
  have m4:(lstV 1 (ints l)).view=lstV 1 (ints l):=view_lstV
  have m5:rowsL (lstV 1 (ints l))=ints l:=rowsL_lstV
  have m6:isSz 1 (lstV 1 (ints l))=true:=isSz_lst (by simp[fits,ints])
  simp only[valsV]at t2
  rcases hab with⟨hk,hkl⟩|⟨hk,hkl⟩
  ·have hx:=len2 (l:=l) (by rw[hl];simp[hkl])
   generalize at0 l=x at *
   generalize at1 l=y at *
   subst hx
   have ep:putR (r2,f) a.k a.ref [x,y]=(trapR { r2 with s:=putS r2.s x a.ref y } (trapS r2.s x a.ref),f):=by simp[putR,hk,at0,at1]
   simp only[ep]
   obtain⟨s3,l3,t3,R3⟩:=pt_ok R2 hS2 x a.ref y
   obtain⟨s4,l4,t4,R4⟩:=trap_ok R3 (trapS r2.s x a.ref)
   rw[ip]at t4
   refine⟨s4,I2,?_,ip,il,R4⟩
   refine call_run (sf:=s99) rfl rfl rfl ?_
   generalize esV s.es=ES at *
   generalize ssV s.bd=BD at *
   generalize ssV s.el=EL at *
   generalize esV a.kids=KV at *
   generalize esV (a.kids++[b])=CV at *
   generalize mkL 1 (ints [x,y])=MV at *
   generalize lstV 1 (ints [x,y])=LV at *
   simp[s99,e1,e2,e3,e4,b1,l1,k1,k2,sb,hcc,t2,SOp.newBox,AV.view,W_draw0,noBoxes,hk,hP,rRow,cut,m2,m4,m5,m6,ints,t3,t4,paste]
   done
  ·have hx:=len3 (l:=l) (by rw[hl];simp[hkl])
   generalize at0 l=x at *
   generalize at1 l=y at *
   generalize at2 l=z at *
   subst hx
   have ep:putR (r2,f) a.k a.ref [x,y,z]=(trapR { r2 with s:=putS r2.s x y z } (trapS r2.s x y),f):=by simp[putR,hk,at0,at1,at2]
   simp only[ep]
   obtain⟨s3,l3,t3,R3⟩:=pt_ok R2 hS2 x y z
   obtain⟨s4,l4,t4,R4⟩:=trap_ok R3 (trapS r2.s x y)
   rw[ip]at t4
   refine⟨s4,I2,?_,ip,il,R4⟩
   refine call_run (sf:=s99) rfl rfl rfl ?_
   generalize esV s.es=ES at *
   generalize ssV s.bd=BD at *
   generalize ssV s.el=EL at *
   generalize esV a.kids=KV at *
   generalize esV (a.kids++[b])=CV at *
   generalize mkL 1 (ints [x,y,z])=MV at *
   generalize lstV 1 (ints [x,y,z])=LV at *
   simp[s99,e1,e2,e3,e4,b1,l1,k1,k2,sb,hcc,t2,SOp.newBox,AV.view,W_draw0,noBoxes,hk,hP,rRow,cut,m2,m4,m5,m6,ints,t3,t4,paste]
   done
theorem loop_ok (K:Prg T C D){N:Nat}(HN:∀n,N=n+1->Hy T C D n fE fS)(s:Sm)(c:E)(hes:s.es=[c])(h:Rep T lim (f::L) r I st)(hw:WE D c)(hwb:WB D s.bd)(hr:refE f.vs.length c)(hrb:refB f.vs.length s.bd)(hsz:E.sz c<1000000000)(hszb:Sm.szs s.bd<1000000000)
  (hG:Gd C 0 r) (hn:C.fuel<=r.steps+N) :
  ∃st' I',(orcL S).call 0 lim 97 [.ptr I.p 0 0 0,.ptr (topP I) 0 0 0,.agg s.row] st=some (.tup [],st')/\I'.p=I.p/\I'.fl=I.fl/\
   Rep T lim ((loopR C fE fS c s.bd N (r,f)).2::L) (loopR C fE fS c s.bd N (r,f)).1 I' st':=by
 have e1:isSl (esV s.es)=true:=isSl_esV
 have e2:(esV s.es).view=esV s.es:=view_esV
 have e3:rowsL (esV s.es)=E.rows s.es:=rowsL_lstV
 have e4:isSz 11 (esV s.es)=true:=isSz_E
 have b1:isSl (ssV s.bd)=true:=isSl_ssV
 have b2:(ssV s.bd).view=ssV s.bd:=view_ssV
 have l1:isSl (ssV s.el)=true:=isSl_ssV
 have l2:(ssV s.el).view=ssV s.el:=view_ssV
 have er:E.rows s.es=[c.row]:=by rw[hes];simp[E.rows]
 have k1:isSl (esV c.kids)=true:=isSl_esV
 have k2:(esV c.kids).view=esV c.kids:=view_esV
 rw[er]at e3
 rw[E.row_eq]at e3
 rw[Sm.row_eq]
 obtain⟨v',st',h1,rfl,I',h2⟩:∃v' st',(orcL S).call 0 lim 97 [.ptr I.p 0 0 0,.ptr (topP I) 0 0 0,.agg [.int .i64 s.k,.str s.nm,.str s.on,.int .i64 s.od,esV s.es,ssV s.bd,ssV s.el,.int .i64 s.a,.int .i64 s.ref]] st=some (v',st')/\v'=.tup []/\∃I',I'.p=I.p/\I'.fl=I.fl/\Rep T lim ((loopR C fE fS c s.bd N (r,f)).2::L) (loopR C fE fS c s.bd N (r,f)).1 I' st':=by
  refine call_ex (sf:=s97) rfl rfl rfl ?_
  generalize esV s.es=ES at *
  generalize hBD:ssV s.bd=BD at *
  generalize ssV s.el=EL at *
  simp[s97,e1,b1,l1,SOp.newBox]
  refine W_loopI s97_l0.eq_1 (fun x:Nat×(Rs×Fm)×Ids×Store=>⟨[(0,.val (.ptr I.p 0 0 0)),(1,.val (.ptr (topP I) 0 0 0)),(5,.fp 0 0)],[[.int .i64 s.k,.str s.nm,.str s.on,.int .i64 s.od,ES,BD,EL,.int .i64 s.a,.int .i64 s.ref]],x.2.2.2⟩)
   (fun x=>loopR C fE fS c s.bd x.1 x.2.1=loopR C fE fS c s.bd N (r,f)/\x.2.2.1.p=I.p/\x.2.2.1.fl=I.fl/\Rep T lim (x.2.1.2::L) x.2.1.1 x.2.2.1 x.2.2.2/\Gd C 0 x.2.1.1/\x.2.1.2.vs.length=f.vs.length/\C.fuel<=x.2.1.1.steps+x.1/\C.fuel<=x.2.1.1.steps+N) (fun x=>x.1) (N,(r,f),I,st) rfl ⟨rfl,rfl,rfl,h,hG,rfl,hn,hn⟩ ?_
  rintro⟨k,⟨r1,f1⟩,I1,s1⟩ ⟨hp,ip,il,h1,g1,v1,n1,n2⟩ ih
  simp only at hp ip il h1 g1 v1 n1 n2 ih
  have et:topP I1=topP I:=by unfold topP;rw[il]
  obtain⟨c1,c2,hc,t1,t2,t3⟩:=h1.top
  have tp:topP I=c1.1:=by rw[<-et];unfold topP;rw[hc]
  by_cases qd:f1.done=true
  ·have ex:loopR C fE fS c s.bd k (r1,f1)=(r1,f1):=by cases k<;>(unfold loopR;rw[if_pos qd])
   rw[ex]at hp
   rw[<-hp]
   simp[tp,t1,fRow,cut,qd,ExQ_endO]
   exact⟨I1,ip,il,h1⟩
  have qd':f1.done=false:=by cases hh:f1.done with|false=>rfl|true=>exact absurd hh qd
  obtain⟨s2,l2,t4,R2⟩:=step_ok h1 (by have:=K.fu;omega) C K.fuel
  rw[ip]at t4
  by_cases ho:okR C r1=true
  ·rw[if_pos ho]at R2
   rw[ho]at t4
   obtain⟨ho1,ho2⟩:=okR_iff.1 ho
   obtain⟨n,rfl⟩:∃n,N=n+1:=⟨N-1,by omega⟩
   obtain⟨k,rfl⟩:∃k',k=k'+1:=⟨k-1,by omega⟩
   have H:=HN n rfl
   have G1:Gd C 0 (tick r1):=(g1.tick ho).less (by omega)
   have hs1:(tick r1).steps=r1.steps+1:=rfl
   obtain⟨s3,I3,t5,ip3,il3,R3⟩:=H.E lim L (tick r1) I1 s2 f1 c R2 hw (by rw[v1];exact hr) hsz G1 (by omega)
   rw[et,ip,tp]at t5
   have hon:=H.oE c f1 (tick r1)
   have G2:=(H.gE 0 c f1 (tick r1) G1).1
   have ex:loopR C fE fS c s.bd (k+1) (r1,f1)=if (fE c f1 (tick r1)).2.e≠0\/(fE c f1 (tick r1)).1=0 then ((fE c f1 (tick r1)).2,f1) else loopR C fE fS c s.bd k (runB fS s.bd ((fE c f1 (tick r1)).2,f1)):=by
    (conv=>lhs;unfold loopR)<;>rw[if_neg (by rw[qd'];simp),if_pos ho]
   rw[ex]at hp
   have en:=fun wl li=>ended_ok wl li R3
   rw[ip3,ip]at en
   rw[E.row_eq]at t5
   have hst:=hon.st
   by_cases q:(fE c f1 (tick r1)).2.e≠0\/(fE c f1 (tick r1)).1=0
   ·rw[if_pos q]at hp
    rw[<-hp]
    generalize fE c f1 (tick r1)=y at *
    by_cases q1:y.2.e=0
    ·have q2:y.1=0:=by rcases q with q|q;exact absurd q1 q;exact q
     simp[tp,t1,fRow,cut,qd',t4,e3,e4,k2,AV.view,en,t5,q1,q2,ExQ_retO]
     exact⟨I3,by rw[ip3,ip],by rw[il3,il],R3⟩
    ·simp[tp,t1,fRow,cut,qd',t4,e3,e4,k2,AV.view,en,t5,q1,ExQ_retO]
     exact⟨I3,by rw[ip3,ip],by rw[il3,il],R3⟩
   ·rw[if_neg q]at hp
    have q1:(fE c f1 (tick r1)).2.e=0:=Decidable.byContradiction fun c=>q (.inl c)
    have q2:¬(fE c f1 (tick r1)).1=0:=fun c=>q (.inr c)
    obtain⟨s4,I4,t6,ip4,il4,R4⟩:=block_ok H s.bd R3 hwb (by rw[v1];exact hrb) hszb G2 (by omega)
    have et3:topP I3=topP I:=by unfold topP;rw[il3,il]
    rw[et3,ip3,ip,tp,hBD]at t6
    obtain⟨g4,_,v4⟩:=runB_gd H.gS s.bd 0 ((fE c f1 (tick r1)).2,f1) G2
    have hon2:=on_runB H.oS s.bd ((fE c f1 (tick r1)).2,f1)
    have hst2:=hon2.st
    have ih':=ih (k,runB fS s.bd ((fE c f1 (tick r1)).2,f1),I4,s4) ⟨hp,by rw[ip4,ip3,ip],by rw[il4,il3,il],R4,g4,by rw[v4];exact v1,by simp only at hst2 ⊢;omega,by simp only at hst2 ⊢;omega⟩ (by simp)
    simp only at ih'
    generalize fE c f1 (tick r1)=y at *
    rw[tp]at ih'
    simp[tp,t1,fRow,cut,qd',t4,e3,e4,k2,b2,AV.view,en,t5,t6,q1,q2]
    exact ih'
  ·rw[if_neg ho]at R2
   have ho':okR C r1=false:=by cases hh:okR C r1 with|false=>rfl|true=>exact absurd hh ho
   rw[ho']at t4
   have ex:loopR C fE fS c s.bd k (r1,f1)=(stop r1,f1):=by
    cases k with
    |zero=>unfold loopR;rw[if_neg qd]
    |succ k=>unfold loopR;rw[if_neg qd,if_neg ho]
   rw[ex]at hp
   rw[<-hp]
   simp[tp,t1,fRow,cut,qd',t4,ExQ_endO]
   exact⟨I1,ip,il,R2⟩
 exact⟨st',I',h1,h2⟩
end E11
