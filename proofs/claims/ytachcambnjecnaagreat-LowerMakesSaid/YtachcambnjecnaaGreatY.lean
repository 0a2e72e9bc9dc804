/- Part of a proof. -/
import Derived.Test.YtachcambnjecnaaGreatF
import Derived.Test.YtachcambnjecnaaGreatQ
import Derived.KernelRfl

set_option maxRecDepth 100000
set_option maxHeartbeats 1000000
namespace tf
open Ax Go V7 jG ke
def Ag(n:Nat)(l:List In):Prop:=∀i∈l,i.args.length<=n
theorem Ag.eK{n:Nat}{a b:List In}(h:Ag n a)(g:Ag n b):Ag n (a++b):=λi hi=>(List.mem_append.1 hi).elim (h i) (g i)
theorem Ag.cons{n:Nat}{a:In}{b:List In}(h:a.args=[])(g:Ag n b):Ag n (a::b):=λi hi=>(List.mem_cons.1 hi).elim (λe=>by rw[e,h];exact Nat.zero_le _) (g i)
theorem Ag.nil{n:Nat}:Ag n []:=λi hi=>by cases hi
theorem Mk(k n cH t O5:Int)(l:List Int):(dh k n cH t O5 l).args=[]\/(dh k n cH t O5 l).args=l:=by
 unfold dh;iterate 11 (split;· first|exact .inl rfl|exact .inr rfl)
 exact .inl rfl
theorem Ml{n:Nat}:∀{l:List E},(∀e∈l,E.sz e<=n->∀nv ns,Ag n (cE nv ns e).2.is)->E.cR l<=n->∀nv ns,Ag n (pE nv ns l).2.is/\(pE nv ns l).1.length=l.length
 |[],_,_,nv,ns=>by simp[pE,O0,Ag]|e::l,ih,h,nv,ns=>by
  simp only[E.cR]at h;rw[wR];obtain⟨h1,h2⟩:=Ml (λx hx=>ih x (List.mem_cons_of_mem _ hx)) (by omega:E.cR l<=n) (nv+(cE nv ns e).2.vs.length) (ns+(cE nv ns e).2.ss.length);exact⟨(ih e List.mem_cons_self (by omega) nv ns).eK h1,by simp[h2]⟩
theorem NL{n:Nat}(e:E):E.sz e<=n->∀nv ns,Ag n (cE nv ns e).2.is:=by
 induction e using E.yx with
 |_ e ih=>
  intro h nv ns;have hk:=E.mz e;have hl:=E.dG e.aC;rw[GH];split;exact Ag.nil;obtain⟨h1,h2⟩:=Ml ih (by omega) nv ns;have hx:(pE nv ns e.aC).1.length<=n:=by omega
  unfold cK;split;exact h1.eK λi hi=>by simp only[dO,List.mem_singleton]at hi;rw[hi];exact hx
  refine h1.eK λi hi=>?_;simp only[List.mem_singleton]at hi;rw[hi];rcases Mk e.k e.n e.cH ((nv+(pE nv ns e.aC).2.vs.length:Nat):Int) ((ns+(pE nv ns e.aC).2.ss.length:Nat):Int) (pE nv ns e.aC).1 with q|q<;>rw[q];exact Nat.zero_le _;exact hx
theorem NN{n:Nat}:∀{l:List Sm},(∀s∈l,Sm.sz s<=n->∀nv a ns,Ag n (cS nv a ns s).is)->Sm.cR l<=n->∀nv a ns,Ag n (cB nv a ns l).is
 |[],_,_,nv,a,ns=>by rw[Ie];exact Ag.nil|s::l,ih,h,nv,a,ns=>by
  simp only[Sm.cR]at h;rw[CS];exact(ih s List.mem_cons_self (by omega) nv a ns).eK (NN (λx hx=>ih x (List.mem_cons_of_mem _ hx)) (by omega) _ _ _)
theorem afx{n:Nat}(hn:9<=n)(s:Sm):Sm.sz s<=n->∀nv a ns,Ag n (cS nv a ns s).is:=by
 induction s using Sm.yx with
 |_ s sY k8=>
  intro h nv a ns;have dH:=Sm.jM s;have f:=λnv a ns=>NN sY (by omega) nv a ns;have g:=λnv a ns=>NN k8 (by omega) nv a ns;have e0:E.sz (ld s.es)<=n:=by
   match s.es,dH with
   |[],_=>simp[ld,E0,E.sz,E.cR];omega|e::l,dH=>simp only[E.cR]at dH;show E.sz e<=n;omega
  have e1:E.sz (PK s.es)<=n:=by
   match s.es,dH with
   |[],_=>simp[PK,E0,E.sz,E.cR];omega|[_],_=>simp[PK,E0,E.sz,E.cR];omega|_::e::l,dH=>simp only[E.cR]at dH;show E.sz e<=n;omega
  have x0:=λnv ns=>NL _ e0 nv ns;have x1:=λnv ns=>NL _ e1 nv ns;have xk:=λnv ns=>(Ml (λx _=>NL x) (by have:=E.mz (ld s.es);omega:E.cR (ld s.es).aC<=n) nv ns).1;rw[Nz];split;exact(x0 _ _).eK (.cons (by unfold Au;split<;>rfl) .nil);split;exact((xk _ _).eK (x1 _ _)).eK (.cons (by unfold FA;split<;>rfl) .nil);split;exact(x0 _ _).eK (.cons rfl ((f _ _ _).eK (.cons rfl (g _ _ _))));split;exact(x0 _ _).eK (.cons rfl ((f _ _ _).eK (.cons rfl .nil)));split;match jR:s.es with
  |[]=>exact .cons rfl .nil|e::l=>
   rw[jR]at dH;simp only[E.cR]at dH;exact(NL e (by omega) _ _).eK (.cons rfl .nil)
  split;exact(x0 _ _).eK (.cons rfl .nil);split;exact x0 _ _;exact .nil
theorem WX{n:Nat}(hn:9<=n)(ns:Nat)(s:Sg)(b:Bd)(h:Sm.cR b.code<=n):Ag n (cp ns s b).is:=by
 refine(NN (λx _=>afx hn x) h _ _ _).eK ?_;unfold wQ;split;exact .cons rfl (.cons rfl .nil);exact .cons rfl .nil
end tf
namespace pX
open Ax Go bu V7 jG ke tf
open K9 (mJ jS fW uQ)
open N7 U7
open S9 (u6 tS)
theorem E4{n:Nat}(hn:9<=n):∀{sg:List Sg}{bs:List Bd}{cs Iu:List Cd}{ss Pc:List Sd}{all:Nat},(∀b∈bs,Sm.cR b.code<=n)->(∀c∈cs,c.vars.length<=4000/\c.is.length<=2500/\Ag n c.is)->ss.length<=60->vr cs ss all sg bs=.ok (Iu,Pc)->
  (∀c∈Iu,c.vars.length<=4000/\c.is.length<=2500/\Ag n c.is)/\Pc.length<=60/\Iu.length<=cs.length+bs.length
 |sg,[],cs,Iu,ss,Pc,all,_,hc,hs,h=>by
  rw[AD]at h;cases h;exact⟨hc,hs,Nat.le_refl _⟩
 |[],b::bs,cs,Iu,ss,Pc,all,_,hc,hs,h=>by
  unfold vr at h;cases h;exact⟨hc,hs,by omega⟩
 |s::sg,b::bs,cs,Iu,ss,Pc,all,hb,hc,hs,h=>by
  rw[xP]at h;split at h;cases h;rename_i k;obtain⟨h1,h2,h3⟩:=E4 hn (λx hx=>hb x (List.mem_cons_of_mem _ hx)) (λc hx=>by
   rcases List.mem_append.1 hx with h|h;exact hc c h;rw[List.mem_singleton.1 h];exact⟨by omega,by omega,WX hn _ s b (hb b List.mem_cons_self)⟩) (by rw[List.length_append,List.length_map];omega) h
  refine⟨h1,h2,?_⟩;simp only[List.length_append,List.length_cons,List.length_nil]at h3 ⊢;omega
theorem TO{p:Pg}(hg:eH p=false){bs:List Bd}(hb:∀b∈bs,Sm.cR b.code<100000000)(hl:bs.length=p.funcs.length){cs:List Cd}{ss:List Sd}(h:vr [] [] 0 (aG p).sigs bs=.ok (cs,ss)):Bp.oh (aG p) cs ss:=by
 obtain⟨f1,f2,f3,f4,_⟩:=Bn hg;obtain⟨h1,h2,h3⟩:=E4 (n:=100000000) (by omega) (λb x=>by have:=hb b x;omega) (λc x=>by cases x) (by simp) h;simp only[List.length_nil]at h3;refine⟨by simp only[aG,List.length_map];omega,λs hs=>?_,by simp only[aG,kS,List.length_map];omega,by omega,λc x=>by have:=(h1 c x).1;omega,λc x=>by have:=(h1 c x).2.1;omega,λc x i y=>by have:=(h1 c x).2.2 i y;omega,by omega⟩;simp only[aG,List.mem_map]at hs;obtain⟨r,hr,rfl⟩:=hs;have:=f4 r hr;simp only[kS,List.length_map];omega
theorem Pu(p:Pg)(pP:∀bs,qk (aG p) (aG p).sigs p.funcs=.ok bs->∀b∈bs,Sm.cR b.code<100000000/\b.vars.length<100000000):∃x e a,nD p=.fm [.agg x,.agg [.int .i64 e,.int .i64 a]]/\(∀wl af st,(bh S).call wl af 8 [.agg x,.agg x] st=some (.bool true,st))/\∃r g c s m,x=[r,g,c,s,.int .i64 m]/\aD r=true/\aD g=true/\aD c=true/\aD s=true/\r.view=r/\g.view=g/\c.view=c/\s.view=s:=by
 have no:∀(e a:Int),nD p=.fm [ZX,.agg [.int .i64 e,.int .i64 a]]->∃x e a,nD p=.fm [.agg x,.agg [.int .i64 e,.int .i64 a]]/\(∀wl af st,(bh S).call wl af 8 [.agg x,.agg x] st=some (.bool true,st))/\∃r g c s m,x=[r,g,c,s,.int .i64 m]/\aD r=true/\aD g=true/\aD c=true/\aD s=true/\r.view=r/\g.view=g/\c.view=c/\s.view=s:=λe a h=>
  ⟨_,e,a,h,λwl af st=>Bp.NK wl af ⟨[],[],[],[]⟩ 0 [] [] st ⟨by simp,by simp,by simp,by simp,by simp,by simp,by simp,by simp⟩,_,_,_,_,_,rfl,rfl,rfl,rfl,rfl,rfl,rfl,rfl,rfl⟩
 cases hF:iS (iY p) with
 |some a=>exact no 3 a (by unfold nD;rw[hF])|none=>
  cases hR:qk (aG p) (aG p).sigs p.funcs with
  |error a=>exact no 3 a (by unfold nD;rw[hF];simp only[hR])|ok bs=>
   cases hS:u6 p with
   |some a=>exact no 3 a (by unfold nD;rw[hF];simp only[hR,hS])|none=>
    cases hg:eH p with
    |true=>exact no 4 0 (by unfold nD;rw[hF];simp only[hR,hS,hg,if_true])|false=>
     cases hm:vr [] [] 0 (aG p).sigs bs with
     |error a=>exact no 4 a (by unfold nD Pb;rw[hF];simp only[hR,hS,hg,hm];rfl)|ok y=>
      obtain⟨cs,ss⟩:=y;have hl:bs.length=p.funcs.length:=S9.sE (by simp[aG]) hR;exact⟨oq (aG p) (fW p) cs ss,0,0,by unfold nD Pb;rw[hF];simp only[hR,hS,hg,hm];rfl,λwl af st=>Bp.NK wl af _ _ _ _ st (TO hg (λb hb=>(pP bs hR b hb).1) hl hm),_,_,_,_,_,rfl,aL,aL,aL,aL,aJ,aJ,aJ,aJ⟩
def kt:List UInt8:=[102,117,110,99,32,109,97,105,110,40,41,32,123,32,112,114,105,110,116,32,49,59,32,125]
def kir:List (List AV):=[[.int .i64 1,.int .i64 0,.int .i64 0,.int .i64 0,.int .i64 1,.U],[.int .i64 15,.int .i64 0,.int .i64 0,.int .i64 0,.int .i64 0,.U],[.int .i64 18,.int .i64 (-1),.int .i64 0,.int .i64 0,.int .i64 0,.U]]
theorem WY:nD (lB kt).1=.fm [.agg [.U,.U,.dM 7 [[.int .i64 0,.dM 3 [[.int .i64 1,.int .i64 0,.int .i64 0]],.bool false,.int .i64 0,.int .i64 0,.int .i64 0,.dM 6 kir]],.U,.int .i64 0],.agg [.int .i64 0,.int .i64 0]]:=by kernel_rfl
theorem WZ:(lB kt).2=(0,0):=by kernel_rfl
theorem TP(wl af:Nat)(st:aj):(bh S).call wl af 9 [] st=some (.bool true,st):=by
 have pk:=λwl li st=>Nr wl li kt st;have Is:=EN kt;have mk:=λwl li st=>xH wl li (lB kt).1 st (SZ Is.X2) (S0 Is.X2) (Ig Is) (xO Is);simp only[WY]at mk;have hp:=WZ;refine bN (sf:=s9) rfl rfl (by simp[AV.ai]) rfl rfl ?_;generalize lB kt=P at *;obtain⟨p,fe,fa⟩:=P;cases hp;simp only at pk mk;have r1:aD (aA 3 (p.aS.map Rc.row))=true:=aL;have r2:(aA 3 (p.aS.map Rc.row)).view=aA 3 (p.aS.map Rc.row):=aJ;have f1:aD (aA 7 (p.funcs.map Fc.row))=true:=aL;have f2:(aA 7 (p.funcs.map Fc.row)).view=aA 7 (p.funcs.map Fc.row):=aJ;have g1:aD (aA 4 (p.globals.map PD.cells))=true:=aL;have g2:(aA 4 (p.globals.map PD.cells)).view=aA 4 (p.globals.map PD.cells):=aJ;unfold Pg.row at pk mk;generalize aA 3 (p.aS.map Rc.row)=PR at *;generalize aA 7 (p.funcs.map Fc.row)=PF at *;generalize aA 4 (p.globals.map PD.cells)=PG at *;unfold kt at pk;simp[s9,pk,mk,kir,r1,r2,f1,f2,g1,g2,ag,AV.view,AV.cq]
theorem Pv(s:List UInt8):(bh S).call 0 0 3 [.str s] []=some (.bool true,[]):=by
 have kn:=TP;have pk:=λwl li st=>Nr wl li s st;have Is:=EN s;have mk:=λwl li st=>xH wl li (lB s).1 st (SZ Is.X2) (S0 Is.X2) (Ig Is) (xO Is);have rk:=λwl li st=>Bp.xH wl li (lB s).1 st (SZ Is.X2) (S0 Is.X2) (Ig Is) (xO Is);have mr:=Pu (lB s).1 (xO Is);refine bN (sf:=s3) rfl rfl (by simp[AV.ai,AV.ax]) rfl rfl ?_;generalize lB s=P at *;obtain⟨p,fe,fa⟩:=P;simp only at pk mk rk mr;have r1:aD (aA 3 (p.aS.map Rc.row))=true:=aL;have r2:(aA 3 (p.aS.map Rc.row)).view=aA 3 (p.aS.map Rc.row):=aJ;have f1:aD (aA 7 (p.funcs.map Fc.row))=true:=aL;have f2:(aA 7 (p.funcs.map Fc.row)).view=aA 7 (p.funcs.map Fc.row):=aJ;have g1:aD (aA 4 (p.globals.map PD.cells))=true:=aL;have g2:(aA 4 (p.globals.map PD.cells)).view=aA 4 (p.globals.map PD.cells):=aJ;unfold Pg.row at pk mk rk;generalize aA 3 (p.aS.map Rc.row)=PR at *;generalize aA 7 (p.funcs.map Fc.row)=PF at *;generalize aA 4 (p.globals.map PD.cells)=PG at *;by_cases c0:(7000:Int)<(s.length:Int);simp[s3,pk,r1,r2,f1,f2,g1,g2,ag,AV.view,c0];by_cases ce:¬fe=0;simp[s3,pk,r1,r2,f1,f2,g1,g2,ag,AV.view,c0,ce];have ce:fe=0:=Decidable.byContradiction ce;subst ce;obtain⟨x,e,a,h1,h2,r,g,c,t,m,rfl,y1,y2,y3,y4,z1,z2,z3,z4⟩:=mr;rw[h1]at mk rk;simp[s3,pk,mk,rk,h2,r1,r2,f1,f2,g1,g2,y1,y2,y3,y4,z1,z2,z3,z4,ag,AV.view,AV.cq,c0,kn,Cx,AJ,AI,au,an]
end pX
