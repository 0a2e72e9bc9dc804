/- Part of a proof. -/
import Derived.Test.YtachcambnjecnaaGreatF
import Derived.Test.YtachcambnjecnaaGreatQ
import Derived.KernelRfl

set_option maxRecDepth 100000
set_option maxHeartbeats 1000000
namespace tc
open Ax Go V7 jG j9
def Ag(n:Nat)(l:List In):Prop:=∀i∈l,i.args.length<=n
theorem Ag.eJ{n:Nat}{a b:List In}(h:Ag n a)(g:Ag n b):Ag n (a++b):=λi hi=>(List.mem_append.1 hi).elim (h i) (g i)
theorem Ag.cons{n:Nat}{a:In}{b:List In}(h:a.args=[])(g:Ag n b):Ag n (a::b):=λi hi=>(List.mem_cons.1 hi).elim (λe=>by rw[e,h];exact Nat.zero_le _) (g i)
theorem Ag.nil{n:Nat}:Ag n []:=λi hi=>by cases hi
theorem Me(k n cG t OZ:Int)(l:List Int):(dh k n cG t OZ l).args=[]\/(dh k n cG t OZ l).args=l:=by
 unfold dh;iterate 11 (split;· first|exact .inl rfl|exact .inr rfl)
 exact .inl rfl
theorem Mf{n:Nat}:∀{l:List E},(∀e∈l,E.sz e<=n->∀nv ns,Ag n (cE nv ns e).2.is)->E.cQ l<=n->∀nv ns,Ag n (pC nv ns l).2.is/\(pC nv ns l).1.length=l.length
 |[],_,_,nv,ns=>by simp[pC,O0,Ag]|e::l,ih,h,nv,ns=>by
  simp only[E.cQ]at h;rw[wP];obtain⟨h1,h2⟩:=Mf (λx hx=>ih x (List.mem_cons_of_mem _ hx)) (by omega:E.cQ l<=n) (nv+(cE nv ns e).2.vs.length) (ns+(cE nv ns e).2.ss.length);exact⟨(ih e List.mem_cons_self (by omega) nv ns).eJ h1,by simp[h2]⟩
theorem NG{n:Nat}(e:E):E.sz e<=n->∀nv ns,Ag n (cE nv ns e).2.is:=by
 induction e using E.yu with
 |_ e ih=>
  intro h nv ns;have hk:=E.mz e;have hl:=E.dD e.aC;rw[Gz];split;exact Ag.nil;obtain⟨h1,h2⟩:=Mf ih (by omega) nv ns;have hx:(pC nv ns e.aC).1.length<=n:=by omega
  unfold cK;split;exact h1.eJ λi hi=>by simp only[dO,List.mem_singleton]at hi;rw[hi];exact hx
  refine h1.eJ λi hi=>?_;simp only[List.mem_singleton]at hi;rw[hi];rcases Me e.k e.n e.cG ((nv+(pC nv ns e.aC).2.vs.length:Nat):Int) ((ns+(pC nv ns e.aC).2.ss.length:Nat):Int) (pC nv ns e.aC).1 with q|q<;>rw[q];exact Nat.zero_le _;exact hx
theorem NH{n:Nat}:∀{l:List Sm},(∀s∈l,Sm.sz s<=n->∀nv a ns,Ag n (cS nv a ns s).is)->Sm.cQ l<=n->∀nv a ns,Ag n (cB nv a ns l).is
 |[],_,_,nv,a,ns=>by rw[H9];exact Ag.nil|s::l,ih,h,nv,a,ns=>by
  simp only[Sm.cQ]at h;rw[CO];exact(ih s List.mem_cons_self (by omega) nv a ns).eJ (NH (λx hx=>ih x (List.mem_cons_of_mem _ hx)) (by omega) _ _ _)
theorem afr{n:Nat}(hn:9<=n)(s:Sm):Sm.sz s<=n->∀nv a ns,Ag n (cS nv a ns s).is:=by
 induction s using Sm.yu with
 |_ s sW k7=>
  intro h nv a ns;have dF:=Sm.jM s;have f:=λnv a ns=>NH sW (by omega) nv a ns;have g:=λnv a ns=>NH k7 (by omega) nv a ns;have e0:E.sz (k9 s.es)<=n:=by
   match s.es,dF with
   |[],_=>simp[k9,E0,E.sz,E.cQ];omega|e::l,dF=>simp only[E.cQ]at dF;show E.sz e<=n;omega
  have e1:E.sz (Pz s.es)<=n:=by
   match s.es,dF with
   |[],_=>simp[Pz,E0,E.sz,E.cQ];omega|[_],_=>simp[Pz,E0,E.sz,E.cQ];omega|_::e::l,dF=>simp only[E.cQ]at dF;show E.sz e<=n;omega
  have x0:=λnv ns=>NG _ e0 nv ns;have x1:=λnv ns=>NG _ e1 nv ns;have xk:=λnv ns=>(Mf (λx _=>NG x) (by have:=E.mz (k9 s.es);omega:E.cQ (k9 s.es).aC<=n) nv ns).1;rw[Nt];split;exact(x0 _ _).eJ (.cons (by unfold Ar;split<;>rfl) .nil);split;exact((xk _ _).eJ (x1 _ _)).eJ (.cons (by unfold Fv;split<;>rfl) .nil);split;exact(x0 _ _).eJ (.cons rfl ((f _ _ _).eJ (.cons rfl (g _ _ _))));split;exact(x0 _ _).eJ (.cons rfl ((f _ _ _).eJ (.cons rfl .nil)));split;match jR:s.es with
  |[]=>exact .cons rfl .nil|e::l=>
   rw[jR]at dF;simp only[E.cQ]at dF;exact(NG e (by omega) _ _).eJ (.cons rfl .nil)
  split;exact(x0 _ _).eJ (.cons rfl .nil);split;exact x0 _ _;exact .nil
theorem WQ{n:Nat}(hn:9<=n)(ns:Nat)(s:Sg)(b:Bd)(h:Sm.cQ b.code<=n):Ag n (cp ns s b).is:=by
 refine(NH (λx _=>afr hn x) h _ _ _).eJ ?_;unfold wO;split;exact .cons rfl (.cons rfl .nil);exact .cons rfl .nil
end tc
namespace pU
open Ax Go bu V7 jG j9 tc
open K9 (mI jS fW uN)
open N7 U7
open S9 (u0 tQ)
theorem EZ{n:Nat}(hn:9<=n):∀{sg:List Sg}{bs:List Bd}{cs Iq:List Cd}{ss O7:List Sd}{all:Nat},(∀b∈bs,Sm.cQ b.code<=n)->(∀c∈cs,c.vars.length<=4000/\c.is.length<=2500/\Ag n c.is)->ss.length<=60->vp cs ss all sg bs=.ok (Iq,O7)->
  (∀c∈Iq,c.vars.length<=4000/\c.is.length<=2500/\Ag n c.is)/\O7.length<=60/\Iq.length<=cs.length+bs.length
 |sg,[],cs,Iq,ss,O7,all,_,hc,hs,h=>by
  rw[AA]at h;cases h;exact⟨hc,hs,Nat.le_refl _⟩
 |[],b::bs,cs,Iq,ss,O7,all,_,hc,hs,h=>by
  unfold vp at h;cases h;exact⟨hc,hs,by omega⟩
 |s::sg,b::bs,cs,Iq,ss,O7,all,hb,hc,hs,h=>by
  rw[xN]at h;split at h;cases h;rename_i k;obtain⟨h1,h2,h3⟩:=EZ hn (λx hx=>hb x (List.mem_cons_of_mem _ hx)) (λc hx=>by
   rcases List.mem_append.1 hx with h|h;exact hc c h;rw[List.mem_singleton.1 h];exact⟨by omega,by omega,WQ hn _ s b (hb b List.mem_cons_self)⟩) (by rw[List.length_append,List.length_map];omega) h
  refine⟨h1,h2,?_⟩;simp only[List.length_append,List.length_cons,List.length_nil]at h3 ⊢;omega
theorem TJ{p:Pg}(hg:eG p=false){bs:List Bd}(hb:∀b∈bs,Sm.cQ b.code<100000000)(hl:bs.length=p.funcs.length){cs:List Cd}{ss:List Sd}(h:vp [] [] 0 (aG p).sigs bs=.ok (cs,ss)):Bn.oh (aG p) cs ss:=by
 obtain⟨f1,f2,f3,f4,_⟩:=Bk hg;obtain⟨h1,h2,h3⟩:=EZ (n:=100000000) (by omega) (λb x=>by have:=hb b x;omega) (λc x=>by cases x) (by simp) h;simp only[List.length_nil]at h3;refine⟨by simp only[aG,List.length_map];omega,λs hs=>?_,by simp only[aG,kR,List.length_map];omega,by omega,λc x=>by have:=(h1 c x).1;omega,λc x=>by have:=(h1 c x).2.1;omega,λc x i y=>by have:=(h1 c x).2.2 i y;omega,by omega⟩;simp only[aG,List.mem_map]at hs;obtain⟨r,hr,rfl⟩:=hs;have:=f4 r hr;simp only[kR,List.length_map];omega
theorem Pn(p:Pg)(pM:∀bs,qh (aG p) (aG p).sigs p.funcs=.ok bs->∀b∈bs,Sm.cQ b.code<100000000/\b.vars.length<100000000):∃x e a,nC p=.fm [.agg x,.agg [.int .i64 e,.int .i64 a]]/\(∀wl af st,(bh S).call wl af 8 [.agg x,.agg x] st=some (.bool true,st))/\∃r g c s m,x=[r,g,c,s,.int .i64 m]/\aD r=true/\aD g=true/\aD c=true/\aD s=true/\r.view=r/\g.view=g/\c.view=c/\s.view=s:=by
 have no:∀(e a:Int),nC p=.fm [ZX,.agg [.int .i64 e,.int .i64 a]]->∃x e a,nC p=.fm [.agg x,.agg [.int .i64 e,.int .i64 a]]/\(∀wl af st,(bh S).call wl af 8 [.agg x,.agg x] st=some (.bool true,st))/\∃r g c s m,x=[r,g,c,s,.int .i64 m]/\aD r=true/\aD g=true/\aD c=true/\aD s=true/\r.view=r/\g.view=g/\c.view=c/\s.view=s:=λe a h=>
  ⟨_,e,a,h,λwl af st=>Bn.NF wl af ⟨[],[],[],[]⟩ 0 [] [] st ⟨by simp,by simp,by simp,by simp,by simp,by simp,by simp,by simp⟩,_,_,_,_,_,rfl,rfl,rfl,rfl,rfl,rfl,rfl,rfl,rfl⟩
 cases hF:iS (iY p) with
 |some a=>exact no 3 a (by unfold nC;rw[hF])|none=>
  cases hR:qh (aG p) (aG p).sigs p.funcs with
  |error a=>exact no 3 a (by unfold nC;rw[hF];simp only[hR])|ok bs=>
   cases hS:u0 p with
   |some a=>exact no 3 a (by unfold nC;rw[hF];simp only[hR,hS])|none=>
    cases hg:eG p with
    |true=>exact no 4 0 (by unfold nC;rw[hF];simp only[hR,hS,hg,if_true])|false=>
     cases hm:vp [] [] 0 (aG p).sigs bs with
     |error a=>exact no 4 a (by unfold nC O6;rw[hF];simp only[hR,hS,hg,hm];rfl)|ok y=>
      obtain⟨cs,ss⟩:=y;have hl:bs.length=p.funcs.length:=S9.sC (by simp[aG]) hR;exact⟨oq (aG p) (fW p) cs ss,0,0,by unfold nC O6;rw[hF];simp only[hR,hS,hg,hm];rfl,λwl af st=>Bn.NF wl af _ _ _ _ st (TJ hg (λb hb=>(pM bs hR b hb).1) hl hm),_,_,_,_,_,rfl,aL,aL,aL,aL,aJ,aJ,aJ,aJ⟩
def kt:List UInt8:=[102,117,110,99,32,109,97,105,110,40,41,32,123,32,112,114,105,110,116,32,49,59,32,125]
def kir:List (List AV):=[[.int .i64 1,.int .i64 0,.int .i64 0,.int .i64 0,.int .i64 1,.U],[.int .i64 15,.int .i64 0,.int .i64 0,.int .i64 0,.int .i64 0,.U],[.int .i64 18,.int .i64 (-1),.int .i64 0,.int .i64 0,.int .i64 0,.U]]
theorem WR:nC (lB kt).1=.fm [.agg [.U,.U,.dL 7 [[.int .i64 0,.dL 3 [[.int .i64 1,.int .i64 0,.int .i64 0]],.bool false,.int .i64 0,.int .i64 0,.int .i64 0,.dL 6 kir]],.U,.int .i64 0],.agg [.int .i64 0,.int .i64 0]]:=by kernel_rfl
theorem WU:(lB kt).2=(0,0):=by kernel_rfl
theorem TK(wl af:Nat)(st:aj):(bh S).call wl af 9 [] st=some (.bool true,st):=by
 have pk:=λwl li st=>Nl wl li kt st;have Io:=EJ kt;have mk:=λwl li st=>xF wl li (lB kt).1 st (SR Io.XY) (SU Io.XY) (Ia Io) (xM Io);simp only[WR]at mk;have hp:=WU;refine bL (sf:=s9) rfl rfl (by simp[AV.ai]) rfl rfl ?_;generalize lB kt=P at *;obtain⟨p,fe,fa⟩:=P;cases hp;simp only at pk mk;have r1:aD (aA 3 (p.aR.map Rc.row))=true:=aL;have r2:(aA 3 (p.aR.map Rc.row)).view=aA 3 (p.aR.map Rc.row):=aJ;have f1:aD (aA 7 (p.funcs.map Fc.row))=true:=aL;have f2:(aA 7 (p.funcs.map Fc.row)).view=aA 7 (p.funcs.map Fc.row):=aJ;have g1:aD (aA 4 (p.globals.map PD.cells))=true:=aL;have g2:(aA 4 (p.globals.map PD.cells)).view=aA 4 (p.globals.map PD.cells):=aJ;unfold Pg.row at pk mk;generalize aA 3 (p.aR.map Rc.row)=PR at *;generalize aA 7 (p.funcs.map Fc.row)=PF at *;generalize aA 4 (p.globals.map PD.cells)=PG at *;unfold kt at pk;simp[s9,pk,mk,kir,r1,r2,f1,f2,g1,g2,ag,AV.view,AV.cq]
theorem Po(s:List UInt8):(bh S).call 0 0 3 [.str s] []=some (.bool true,[]):=by
 have kn:=TK;have pk:=λwl li st=>Nl wl li s st;have Io:=EJ s;have mk:=λwl li st=>xF wl li (lB s).1 st (SR Io.XY) (SU Io.XY) (Ia Io) (xM Io);have rk:=λwl li st=>Bn.xF wl li (lB s).1 st (SR Io.XY) (SU Io.XY) (Ia Io) (xM Io);have mr:=Pn (lB s).1 (xM Io);refine bL (sf:=s3) rfl rfl (by simp[AV.ai,AV.ax]) rfl rfl ?_;generalize lB s=P at *;obtain⟨p,fe,fa⟩:=P;simp only at pk mk rk mr;have r1:aD (aA 3 (p.aR.map Rc.row))=true:=aL;have r2:(aA 3 (p.aR.map Rc.row)).view=aA 3 (p.aR.map Rc.row):=aJ;have f1:aD (aA 7 (p.funcs.map Fc.row))=true:=aL;have f2:(aA 7 (p.funcs.map Fc.row)).view=aA 7 (p.funcs.map Fc.row):=aJ;have g1:aD (aA 4 (p.globals.map PD.cells))=true:=aL;have g2:(aA 4 (p.globals.map PD.cells)).view=aA 4 (p.globals.map PD.cells):=aJ;unfold Pg.row at pk mk rk;generalize aA 3 (p.aR.map Rc.row)=PR at *;generalize aA 7 (p.funcs.map Fc.row)=PF at *;generalize aA 4 (p.globals.map PD.cells)=PG at *;by_cases c0:(7000:Int)<(s.length:Int);simp[s3,pk,r1,r2,f1,f2,g1,g2,ag,AV.view,c0];by_cases ce:¬fe=0;simp[s3,pk,r1,r2,f1,f2,g1,g2,ag,AV.view,c0,ce];have ce:fe=0:=Decidable.byContradiction ce;subst ce;obtain⟨x,e,a,h1,h2,r,g,c,t,m,rfl,y1,y2,y3,y4,z1,z2,z3,z4⟩:=mr;rw[h1]at mk rk;simp[s3,pk,mk,rk,h2,r1,r2,f1,f2,g1,g2,y1,y2,y3,y4,z1,z2,z3,z4,ag,AV.view,AV.cq,c0,kn,Cu,AH,AG]
end pU
