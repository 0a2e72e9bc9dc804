/-
  LowerLong: a program of n prints.
-/
import Derived.Test.YtachcambnjecnaaX
import Derived.Test.YtachcambnjecnaaK

set_option maxRecDepth 100000
set_option maxHeartbeats 1000000
namespace U13
open Ax Go Code13 V7 Par Chk Low
open K9 (typedV hdCells mainP bodV Z5)
open N7 U7
open S9 (sureO fltV)
def prS (i:Int):Sm:=.mk 8 [] [] 0 [.mk 1 i [] [] 0 [] 0 T0 0] [] [] 0 0
def prC (i:Int):Sm:=.mk 8 [] [] 0 [.mk 1 i [] [] 0 [] 0 tI 0] [] [] 0 0
def ids (n:Nat):List Int:=(List.range n).map fun i:Nat=>(i:Int)
theorem ids_len (n:Nat):(ids n).length=n:=by simp[ids]
def prs (n:Nat):List Sm:=(ids n).map prS
def longP (n:Nat):Pg:=⟨[],[],[⟨[97],[],false,[],0,[],3⟩,⟨[109,97,105,110],[],false,[],0,prs n,9⟩]⟩
theorem ckS_pr (H:Hd)(has:Bool)(res:T3)(V:List Vd)(i:Int):ckS H has res V (prS i)=.ok (prC i,V):=by
 simp[prS,prC,ckS,formT,declT,esT,ckV,ckE,kindsT,typE,keptN,keptNm,keptOn,keptOd,fitT,ty1,E.ty,keptS,keptSn,keptSd]
theorem ckB_prs (H:Hd)(has:Bool)(res:T3)(V:List Vd):∀l:List Int,ckB H has res V (l.map prS)=.ok (l.map prC,V)
 |[]=>by simp[ckB]
 |i::l=>by simp[ckB,ckS_pr,ckB_prs H has res V l]
theorem surB_prs (su:List Bool):∀l:List Int,surB su (l.map prC)=(su,none)
 |[]=>by simp[surB]
 |i::l=>by
  have h:surS su (prC i)=(su,none):=by simp[prC,surS,askL,askE,orO]
  rw[List.map_cons,surB_cons,h,surB_prs su l];rfl
theorem cB_prs:∀(l:List Int)(nv a ns:Nat),(cB nv a ns (l.map prC)).vs.length=l.length/\(cB nv a ns (l.map prC)).is.length=2*l.length/\(cB nv a ns (l.map prC)).ss=[]
 |[],nv,a,ns=>by rw[List.map_nil,cB_nil];exact⟨rfl,rfl,rfl⟩
 |i::l,nv,a,ns=>by
  rw[List.map_cons,cB_cons]
  unfold then3
  obtain⟨h1,h2,h3⟩:=cB_prs l (nv+(cS nv a ns (prC i)).vs.length) (a+(cS nv a ns (prC i)).is.length) (ns+(cS nv a ns (prC i)).ss.length)
  have hs:(cS nv a ns (prC i)).vs.length=1/\(cS nv a ns (prC i)).is.length=2/\(cS nv a ns (prC i)).ss=[]:=by
   simp[prC,cS,es0,cE,cEs,cK,Out.app,ins1,O0]
  obtain⟨g1,g2,g3⟩:=hs
  obtain⟨k1,k2,_⟩:=app_len (cS nv a ns (prC i)) (cB (nv+(cS nv a ns (prC i)).vs.length) (a+(cS nv a ns (prC i)).is.length) (ns+(cS nv a ns (prC i)).ss.length) (l.map prC))
  refine⟨by rw[k1,h1,g1];simp;omega,by rw[k2,h2,g2];simp;omega,?_⟩
  show _++_=[]
  rw[h3,g3];rfl
theorem prs_map (n:Nat):prs n=(ids n).map prS:=rfl
def sgA:Sg:=⟨[97],[],false,T0⟩
def sgM:Sg:=⟨[109,97,105,110],[],false,T0⟩
theorem hd_long (n:Nat):hdOf (longP n)=⟨[],[],[],[sgA,sgM]⟩:=rfl
def bdM (n:Nat):Bd:=⟨[],(ids n).map prC,9⟩
theorem ck_long (n:Nat):ckF (hdOf (longP n)) (hdOf (longP n)).sigs (longP n).funcs=.ok [⟨[],[],3⟩,bdM n]:=by
 rw[hd_long]
 unfold longP
 rw[prs_map]
 have:=ckB_prs ⟨[],[],[],[sgA,sgM]⟩ false T0 [] (ids n)
 simp only[sgA,sgM]at this
 simp[ckF,sgA,sgM,ckB,this,bdM]
theorem fault_long (n:Nat):faultH (gdOf (longP n))=none:=rfl
theorem sure_long (n:Nat):sureO (longP n)=none:=by
 unfold sureO
 rw[fault_long,ck_long,hd_long]
 simp[surF,surB,bdM,surB_prs,orO]
theorem great_long (n:Nat):greatP (longP n)=false:=rfl
theorem main_long (n:Nat):mainP (longP n)=1:=rfl
theorem make_long (n:Nat)(hn:n<=1300):(1249<n/\makeV (longP n)=.tup [ZX,.agg [.int .i64 4,.int .i64 9]])\/
  (n<=1249/\∃cs:List Cd,cs.length=2/\(∀c,cs[1]?=some c->c.is.length=2*n+1)/\makeV (longP n)=.tup [.agg (irCells ⟨[],[],[],[sgA,sgM]⟩ 1 cs []),.agg [.int .i64 0,.int .i64 0]]):=by
 have e1:makeV (longP n)=mkV ⟨[],[],[],[sgA,sgM]⟩ 1 (mkCs [] [] 0 [sgA,sgM] [⟨[],[],3⟩,bdM n]):=by
  unfold makeV
  rw[fault_long,ck_long,sure_long,great_long,hd_long,main_long]
  rfl
 have ha:(codeOf 0 sgA ⟨[],[],3⟩).vars.length=0/\(codeOf 0 sgA ⟨[],[],3⟩).is.length=1/\(bodyO 0 ⟨[],[],3⟩).ss=[]:=by
  simp[codeOf,bodyO,cB_nil,O0,sgA,endI]
 obtain⟨h1,h2,h3⟩:=cB_prs (ids n) 0 0 0
 rw[ids_len]at h1 h2
 have hb:(codeOf 0 sgM (bdM n)).vars.length=n/\(codeOf 0 sgM (bdM n)).is.length=2*n+1/\(bodyO 0 (bdM n)).ss=[]:=by
  refine⟨?_,?_,h3⟩
  ·show (([]:List T3)++(cB 0 0 0 _).vs++[]).length=n
   show (([]:List T3)++(cB 0 0 0 ((ids n).map prC)).vs++[]).length=n;simp[h1]
  ·show ((cB 0 0 0 _).is++[_]).length=_
   show ((cB 0 0 0 ((ids n).map prC)).is++[_]).length=_;simp[h2]
 obtain⟨a1,a2,a3⟩:=ha
 obtain⟨b1,b2,b3⟩:=hb
 have hm:mkCs [] [] 0 [sgA,sgM] [⟨[],[],3⟩,bdM n]=if 1249<n then .error 9 else .ok ([codeOf 0 sgA ⟨[],[],3⟩,codeOf 0 sgM (bdM n)],[]):=by
  rw[mkCs_cons]
  simp only[List.length_nil,a1,a2,a3,List.map_nil,List.nil_append,Nat.zero_add]
  rw[if_neg (by omega),mkCs_cons]
  simp only[List.length_nil,b1,b2,b3,List.map_nil,List.append_nil]
  by_cases c:1249<n
  ·rw[if_pos c,if_pos (.inr (.inl (by omega)))];rfl
  ·rw[if_neg c,if_neg (by omega),mkCs_end];rfl
 rw[e1,hm]
 by_cases c:1249<n
 ·rw[if_pos c];exact .inl ⟨c,rfl⟩
 ·rw[if_neg c]
  refine .inr ⟨by omega,_,rfl,fun c hc=>?_,rfl⟩
  simp at hc
  rw[<-hc];exact b2
theorem in_long (n:Nat):Pg.In 6000 (longP n):=by
 refine⟨⟨by simp[longP],by simp[longP]⟩,⟨by simp[longP],by simp[longP]⟩,⟨by simp[longP],fun x hx=>?_⟩⟩
 simp[longP]at hx
 rcases hx with rfl|rfl<;>exact⟨⟨by simp,by simp⟩,by simp,by simp,⟨by simp,by simp⟩⟩
theorem sz_prs:∀l:List Int,Sm.szs (l.map prS)=2*l.length/\Sm.szs (l.map prC)=2*l.length
 |[]=>⟨rfl,rfl⟩
 |i::l=>by
  obtain⟨h1,h2⟩:=sz_prs l
  simp only[List.map_cons,Sm.szs,h1,h2,List.length_cons]
  simp[prS,prC,Sm.sz,E.szs,E.sz,Sm.szs];omega
theorem make_long_ok (wl lim:Nat)(n:Nat)(hn:n<=1300)(st:Store):(orcL S).call wl lim 7 [.agg (longP n).row] st=some (makeV (longP n),st):=by
 refine make_ok wl lim (longP n) st (gd_ok (in_long n)) (gd_sm (in_long n)) (fun f hf=>?_) (fun bs h b hb=>?_)
 ·simp only[longP,List.mem_cons,List.not_mem_nil,or_false]at hf
  rcases hf with rfl|rfl
  ·simp[Sm.szs]
  ·simp only[prs_map,(sz_prs _).1,ids_len,List.length_nil];omega
 ·rw[ck_long]at h
  cases h
  simp only[List.mem_cons,List.not_mem_nil,or_false]at hb
  rcases hb with rfl|rfl
  ·simp[Sm.szs]
  ·simp only[bdM,(sz_prs _).2,ids_len,List.length_nil];omega
end U13
namespace U13
open Ax Go Code13 V7 Par Chk Low
theorem prs_succ (n:Nat):prs (n+1)=prs n++[prS n]:=by simp[prs,ids,List.range_succ]
theorem row_prS (i:Int):(prS i).row=[.int .i64 8,.str [],.str [],.int .i64 0,.lst 11 [[.int .i64 1,.int .i64 i,.str [],.str [],.int .i64 0,.nilSl,.int .i64 0,.int .i64 0,.int .i64 0,.int .i64 0,.int .i64 0]],.nilSl,.nilSl,.int .i64 0,.int .i64 0]:=by
 simp[prS,Sm.row,esV,E.rows,E.row,Sm.rows,lstV,mkL,AV.view]
def ownE (l:List (List AV)):AV:=if l=[] then .emp else .own 9 l
theorem law_long (n:Int):(orcL S).call 0 0 5 [.int .i64 n] []=some (.bool true,[]):=by
 have kn:=fun wl li st=>call_any (sf:=s8) rfl rfl rfl known0 wl li st
 by_cases cz:n=0
 ·rw[cz];exact long0
 refine call_pure (sf:=s5) rfl rfl (by simp[AV.allPure,AV.isPure]) rfl rfl ?_
 by_cases c0:n<0
 ·simp[s5,c0]
 by_cases c1:1300<n
 ·simp[s5,c0,c1]
 obtain⟨n,rfl⟩:∃k:Nat,n=k:=⟨n.toNat,by omega⟩
 have hn:n<=1300:=by omega
 have mk:=fun wl li st=>make_long_ok wl li n hn st
 simp[s5,c0,c1]
 refine W_loopI s5_l0.eq_1 (fun k:Nat=>⟨[(0,.val (.int .i64 n)),(3,.val (ownE ((prs k).map Sm.row))),(4,.val (.int .i64 k))],[[],[]],[]⟩)
  (fun k=>k<=n) (fun k=>n-k) 0 (by simp[ownE,prs,ids]) (by simp) ?_
 intro k hk ih
 by_cases hlt:k<n
 ·have hwr:IntKind.i64.wrap ((k:Int)+1)=((k+1:Nat):Int):=by rw[wrap64]<;>omega
  have ih':=ih (k+1) (by omega) (by omega)
  have hl:((prs k).map Sm.row).length=k:=by simp[prs,ids_len]
  rw[prs_succ,List.map_append,List.map_cons,List.map_nil,row_prS]at ih'
  have ho:∀r,ownE ((prs k).map Sm.row++[r])=.own 9 ((prs k).map Sm.row++[r]):=fun r=>by unfold ownE;rw[if_neg (by simp)]
  rw[ho]at ih'
  have hroom:(k+1)*136<=room:=by unfold room;omega
  have hroom0:136<=room:=by decide
  have hltI:(k:Int)<(n:Int):=by omega
  generalize (prs k).map Sm.row=Lk at *
  by_cases k0:Lk=[]
  ·rw[k0]at ih' ⊢
   have o1:ownE ([]:List (List AV))=.emp:=rfl
   simp only[List.nil_append]at ih'
   simp[hltI,hwr,o1,paste,AV.view,AV.viewL,fits,hroom0,appV]
   exact ih'
  ·have o1:ownE Lk=.own 9 Lk:=by unfold ownE;rw[if_neg k0]
   rw[o1]
   simp[hltI,hwr,paste,AV.view,AV.viewL,fits,hl,hroom,appV]
   exact ih'
 ·have hkl:k=n:=by omega
  subst hkl
  have hrow:(longP k).row=[.nilSl,.nilSl,.lst 7 [[.str [97],.nilSl,.bool false,.str [],.int .i64 0,.nilSl,.int .i64 3],[.str [109,97,105,110],.nilSl,.bool false,.str [],.int .i64 0,ssV (prs k),.int .i64 9]]]:=by
   simp[longP,Pg.row,lstV,mkL,AV.view,Fc.row,ssV,Sm.rows]
  rw[hrow]at mk
  have s1:ssV (prs k)=lstV 9 ((prs k).map Sm.row):=by unfold ssV;rw[Smrows_map]
  have s2:isSl (ssV (prs k))=true:=isSl_ssV
  have s3:(ssV (prs k)).view=ssV (prs k):=view_ssV
  have hw2:IntKind.i64.wrap (2*(k:Int))=2*(k:Int):=by rw[wrap64]<;>omega
  have hw3:IntKind.i64.wrap (2*(k:Int)+2)=2*(k:Int)+2:=by rw[wrap64]<;>omega
  have hw4:IntKind.i64.wrap (2*(k:Int)+1)=2*(k:Int)+1:=by rw[wrap64]<;>omega
  have hk0:(prs k).map Sm.row≠[]:=by
   intro h
   have:=congrArg List.length h
   simp[prs,ids_len]at this
   omega
  have hoS:ownE ((prs k).map Sm.row)=.own 9 ((prs k).map Sm.row):=by unfold ownE;rw[if_neg hk0]
  have hlS:ssV (prs k)=.lst 9 ((prs k).map Sm.row):=by
   rw[s1]
   cases hh:(prs k).map Sm.row with
   |nil=>exact absurd hh hk0
   |cons a l=>rfl
  rw[hoS]
  rw[hlS]at mk
  generalize (prs k).map Sm.row=PR at *
  have hz:∀a:Nat,(a:Int)<0↔False:=fun a=>⟨fun h=>by omega,fun h=>h.elim⟩
  rcases make_long k hn with⟨c,e⟩|⟨c,cs,hcs,hc1,e⟩
  ·rw[e]at mk
   have c2:(2500:Int)<2*(k:Int)+2:=by omega
   simp[AV.view,AV.viewL,mk,paste,hw2,hw3,c2,kn]
  ·rw[e]at mk
   have c2:¬(2500:Int)<2*(k:Int)+2:=by omega
   unfold irCells at mk
   match cs,hcs,hc1 with
   |[ca,cb],_,hc1=>
    have hcb:=hc1 cb rfl
    have hcs1:lstV 7 ([ca,cb].map Cd.row)=.lst 7 [Cd.row ca,Cd.row cb]:=rfl
    rw[hcs1]at mk
    have hi:((cb.is.length:Nat):Int)=2*(k:Int)+1:=by omega
    simp only[Cd.row]at mk
    have i1:isSl (lstV 6 (cb.is.map In.row))=true:=isSl_lstV
    have i2:rowsL (lstV 6 (cb.is.map In.row))=cb.is.map In.row:=rowsL_lstV
    have i3:(lstV 6 (cb.is.map In.row)).view=lstV 6 (cb.is.map In.row):=view_lstV
    have il:(cb.is.map In.row).length=cb.is.length:=by simp
    generalize lstV 6 (cb.is.map In.row)=IV at *
    simp[AV.view,AV.viewL,mk,paste,hw2,hw3,hw4,c2,kn,i1,i2,i3,il,hi,fits]
end U13
