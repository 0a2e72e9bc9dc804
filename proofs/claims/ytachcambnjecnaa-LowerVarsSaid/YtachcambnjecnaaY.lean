/-
  Programs that are read are small.
-/
import Derived.Test.YtachcambnjecnaaN
import Derived.Test.YtachcambnjecnaaP
import Derived.Test.YtachcambnjecnaaD
import Derived.Test.YtachcambnjecnaaS
import Derived.Test.YtachcambnjecnaaT
import Derived.Test.YtachcambnjecnaaI
import Derived.Test.YtachcambnjecnaaX
import Derived.KernelRfl
import Derived.Test.YtachcambnjecnaaK

set_option maxRecDepth 100000
set_option maxHeartbeats 4000000
namespace xD
open Ax Go cp V7 j4 k8 K9 S9 N7 U7
theorem Ie (s:List UInt8):∀f∈(lT s).1.funcs,Sm.dG f.body<=6001:=by
 unfold lT
 split
 ·rename_i hl
  generalize htp:U2.Bx s=z
  obtain⟨rows,e⟩:=z
  cases e with
  |some e=>intro f hf;cases hf
  |none=>
   obtain⟨iN,hlen⟩:=EW htp
   obtain⟨x,hx⟩:=pQ (l9 rows)
   simp only
   rw[hx,Option.getD_some]
   have hTl:(l9 rows).length=rows.length:=by simp[l9]
   intro f hf
   have:=Mo hx f hf
   omega
 ·intro f hf;cases hf
theorem Y1 (p:Pg)(hp:Pg.In 6000 p):∀s∈(aQ p).sigs,s.ps.length<=7:=by
 intro s hs
 obtain⟨f,hf,rfl⟩:=List.mem_map.1 hs
 have:=(hp.f.2 f hf).len
 simpa [vA,lK] using this
structure Rr (p:Pg):Prop where
 inn:Pg.In 6000 p
 small:∀f∈p.funcs,Sm.dG f.body<=12010
theorem Co (s:List UInt8):Rr (lT s).1:=⟨(Qk s).1,λf hf=>by have:=Ie s f hf;omega⟩
theorem Lj {p:Pg}(h:Rr p):∀f∈p.funcs,f.params.length+Sm.dG f.body<1000000000:=λf hf=>by
 have:=h.small f hf
 have:=(h.inn.f.2 f hf).len
 omega
theorem JV {p:Pg}(h:Rr p):∀bs,qj (aQ p) (aQ p).sigs p.funcs=.ok bs->∀b∈bs,Sm.dG b.code<=12010/\b.vars.length<=24020:=λbs hR b hb=>by
 have nt:=DB hR h.small b hb
 have Cs:=G6 (n:=12010) (KU p) hR (λs hs=>((KU p).sigs s hs).2) (λs hs=>by have:=Y1 p h.inn s hs;omega) h.small b hb
 omega
theorem DU {p:Pg}(h:Rr p):∀bs,qj (aQ p) (aQ p).sigs p.funcs=.ok bs->∀b∈bs,Sm.dG b.code<100000000/\b.vars.length<100000000:=λbs hR b hb=>by
 have:=JV h bs hR b hb
 omega
end xD
namespace MX
open Ax Go V7 j4 k8 uF
open nO (uS uB uP xg yz iG Iv tF UE RN Ld UC Cm WfP WfF dB dS MP tA)
open nO (TS)
open Lx (Fp xm xk JR Rg DR)
def nm (i:Nat):List UInt8:=[118,UInt8.ofNat (97+i / 10),UInt8.ofNat (97+i % 10)]
def wv:List UInt8:=[118,97,114,32]
def wl:List UInt8:=[108,101,116,32]
def tl (k:Nat):List UInt8:=match k with
 |0=>[58,32,98,111,111,108,59]
 |1=>[58,32,105,110,116,32,61,32,52,59]
 |2=>[58,32,82,32,61,32,110,117,108,108,32,82,59]
 |_=>[58,32,91,98,111,111,108,93,32,61,32,110,101,119,32,91,98,111,111,108,93,40,50,41,59]
def Nj (i k:Nat):List UInt8:=(if k=0 then wv else wl)++(nm i++tl k)
def st (i k:Nat):Sm:=match k with
 |0=>.mk 1 (nm i) tA 0 [] [] [] 0 0
 |1=>.mk 2 (nm i) MP 0 [.mk 1 4 [] [] 0 [] 0 T0 0] [] [] 0 0
 |2=>.mk 2 (nm i) [82] 0 [.mk 3 0 [] [82] 0 [] 0 T0 0] [] [] 0 0
 |_=>.mk 2 (nm i) tA 1 [.mk 9 0 [] tA 0 [.mk 1 2 [] [] 0 [] 0 T0 0] 0 T0 0] [] [] 0 0
theorem UI:((List.range 30).all λi=>(List.range 4).all λk=>decide (Fp 60 (Nj i k)=some (uS (st i k))))=true:=by kernel_rfl
theorem Y2 {i k:Nat}(hi:i<30)(hk:k<4):Fp 60 (Nj i k)=some (uS (st i k)):=by
 have h:=List.all_eq_true.1 UI i (List.mem_range.2 hi)
 have h:=List.all_eq_true.1 h k (List.mem_range.2 hk)
 simpa using h
def kK (i:Nat):List Nat->List UInt8
 |[]=>[]
 |k::l=>Nj i k++32::kK (i+1) l
def vJ (i:Nat):List Nat->List Sm
 |[]=>[]
 |k::l=>st i k::vJ (i+1) l
def tail:List TS:=[nO.W [125],(0,[],0)]
theorem UJ:Lx.Lx [125] tail:=JR (k:=0) rfl rfl (λ_a=>⟨_,rfl,rfl⟩) Rg
theorem Ll:∀(l:List Nat)(i:Nat),i+l.length<=30->(∀k∈l,k<4)->Lx.Lx (kK i l++[125]) (uB (vJ i l)++tail)
 |[],i,_,_=>UJ
 |k::l,i,h,hk=>by
  have ih:=Ll l (i+1) (by simp only[List.length_cons]at h;omega) λx hx=>hk x (List.mem_cons_of_mem _ hx)
  have hp:=xm 60 (Nj i k) _ (Y2 (by simp only[List.length_cons]at h;omega) (hk k List.mem_cons_self)) _ _ (xk (c:=32) rfl ih)
  show Lx.Lx ((Nj i k++32::kK (i+1) l)++[125]) ((uS (st i k)++uB (vJ (i+1) l))++tail)
  rw[List.append_assoc,List.append_assoc]
  exact hp
def Ig:List UInt8:=[114,101,99,111,114,100,32,82,32,123,32,125,32,102,117,110,99,32,109,97,105,110,40,41,32,123]
def Y3 (l:List Nat):List UInt8:=Ig++32::(kK 0 l++[125])
def k6:List UInt8:=[109,97,105,110]
def pg (l:List Nat):Pg:=⟨[⟨[82],[],0⟩],[],[⟨k6,[],false,[],0,vJ 0 l,0⟩]⟩
theorem Y4 (l:List Nat)(h:l.length<=30)(hk:∀k∈l,k<4):Lx.Lx (Y3 l) (uP (pg l)++[(0,[],0)]):=by
 have hb:=Ll l 0 (by omega) hk
 have hh:Fp 80 Ig=some (xg ⟨[82],[],0⟩++[nO.W [102,117,110,99],nO.Nm k6,nO.W [40],nO.W [41],nO.W [123]]):=by kernel_rfl
 have hp:=xm 80 Ig _ hh _ _ (xk (c:=32) rfl hb)
 have e:uP (pg l)++[(0,[],0)]=(xg ⟨[82],[],0⟩++[nO.W [102,117,110,99],nO.Nm k6,nO.W [40],nO.W [41],nO.W [123]])++(uB (vJ 0 l)++tail):=by
  show (xg _++[])++([]++(yz _++[]))++_=_
  unfold yz
  simp[tail]
  exact⟨rfl,rfl⟩
 rw[e];exact hp
theorem adz (i k:Nat):UC (st i k)/\dS (st i k)<=1:=by
 match k with
 |0=>
  have hd:dS (st i (0))=0:=rfl
  exact⟨by simp[st,nO.yw,nO.MS,Sm.k,Sm.es,Sm.bd,Sm.el,Sm.od,nO.Nh,nO.Cm],by rw[hd];decide⟩
 |1=>
  have hd:dS (st i (1))=0:=rfl
  exact⟨by simp[st,nO.yw,nO.MS,Sm.k,Sm.es,Sm.bd,Sm.el,Sm.od,nO.Nh,nO.Cm,nO.Wf,cR],by rw[hd];decide⟩
 |2=>
  have hd:dS (st i (2))=0:=rfl
  exact⟨by simp[st,nO.yw,nO.MS,Sm.k,Sm.es,Sm.bd,Sm.el,Sm.od,nO.Nh,nO.Cm,nO.Wf,cR],by rw[hd];decide⟩
 |k+3=>
  have hd:dS (st i (k+3))=1:=rfl
  exact⟨by simp[st,nO.yw,nO.MS,Sm.k,Sm.es,Sm.bd,Sm.el,Sm.od,nO.Nh,nO.Cm,nO.Wf,cR],by rw[hd];decide⟩
theorem Fs:∀(l:List Nat)(i:Nat),Cm (vJ i l)/\dB (vJ i l)<=1
 |[],_=>⟨by simp[vJ,Cm],by simp[vJ,dB]⟩
 |k::l,i=>by
  obtain⟨h1,h2⟩:=Fs l (i+1)
  obtain⟨h3,h4⟩:=adz i k
  refine⟨?_,?_⟩
  ·show Cm (st i k::vJ (i+1) l)
   unfold Cm;exact⟨h3,h1⟩
  ·show max _ _<=_
   omega
theorem adA (l:List Nat):WfP (pg l):=by
 refine⟨by simp[pg],by simp[pg],by simp[pg],λr hr=>?_,λq hq=>by simp[pg]at hq,λf hf=>?_⟩
 ·simp[pg]at hr;subst hr;exact⟨by simp,by simp⟩
 ·simp[pg]at hf;subst hf
  exact⟨by simp,by simp,⟨by simp,by simp⟩,λ_=>⟨rfl,rfl⟩,(Fs l 0).1⟩
theorem Y5 (i k:Nat):(Nj i k).length<=40:=by
 match k with
 |0=>simp[Nj,wv,nm,tl]
 |1=>simp[Nj,wl,nm,tl]
 |2=>simp[Nj,wl,nm,tl]
 |k+3=>simp[Nj,wl,nm,tl]
theorem xx:∀(l:List Nat)(i:Nat),(kK i l).length<=41*l.length
 |[],_=>by simp[kK]
 |k::l,i=>by
  have:=xx l (i+1)
  have:=Y5 i k
  simp only[kK,List.length_append,List.length_cons];omega
theorem Rs (l:List Nat)(h:l.length<=30)(hk:∀k∈l,k<4):∃p',N7.lT (Y3 l)=(p',0,0)/\Ld p'=Ld (pg l):=by
 refine DR ?_ (Y4 l h hk) (adA l) λc hc=>?_
 ·have:=xx l 0
  simp[Y3,Ig];omega
 ·simp[pg]at hc;subst hc
  have:=(Fs l 0).2
  show dB (vJ 0 l)+1<=50
  omega
end MX
namespace MX
open Ax Go V7 j4 k8 uF Inv
open nO (uS uB uP xg yz iG Iv tF UE RN Ld UC Cm WfP WfF dB dS MP tA)
open xD (zh YE rH yp Cg je)
open K9 (gW)
open N7 U7
open S9 (zf)
theorem shape {p:Pg}{l:List Nat}(h:Ld p=Ld (pg l)):∃a b body,p=⟨[⟨[82],[],a⟩],[],[⟨k6,[],false,[],0,body,b⟩]⟩/\tF body=tF (vJ 0 l):=by
 obtain⟨rs,gs,fs⟩:=p
 unfold Ld at h
 injection h with h1 h2 h3
 simp only[pg,List.map_cons,List.map_nil]at h1 h2 h3
 have e2:gs=[]:=by simpa using h2
 match rs,h1 with
 |[],h1=>cases h1
 |_::_::_,h1=>simp at h1
 |[r],h1=>
  match fs,h3 with
  |[],h3=>cases h3
  |_::_::_,h3=>simp at h3
  |[f],h3=>
   obtain⟨n1,fl,a⟩:=r
   obtain⟨n2,ps,hs,on,od,bd,b⟩:=f
   simp only[List.map_cons,List.map_nil,UE,RN,List.cons.injEq,and_true,Rc.mk.injEq,Fc.mk.injEq,List.map_eq_nil_iff]at h1 h3
   obtain⟨a1,a2⟩:=h1
   obtain⟨b1,b2,b3,b4,b5,b6⟩:=h3
   subst e2 a1 a2 b1 b2 b3 b4 b5
   exact⟨a,b,bd,rfl,b6⟩
def H0:Hd:=⟨[[82]],[([82],[])],[],[⟨k6,[],false,T0⟩]⟩
def ty (k:Nat):T3:=match k with
 |0=>tB
 |1=>tI
 |2=>⟨3,0,0⟩
 |_=>⟨2,0,1⟩
def tm (k:Nat):List T3:=match k with
 |0=>[]
 |1=>[tI]
 |2=>[⟨3,0,0⟩]
 |_=>[tI,⟨2,0,1⟩]
def zD (i k:Nat)(r:Int):Sm:=match k with
 |0=>.mk 1 (nm i) tA 0 [] [] [] 0 r
 |1=>.mk 2 (nm i) MP 0 [.mk 1 4 [] [] 0 [] 0 tI 0] [] [] 0 r
 |2=>.mk 2 (nm i) [82] 0 [.mk 3 0 [] [82] 0 [] 0 ⟨3,0,0⟩ 0] [] [] 0 r
 |_=>.mk 2 (nm i) tA 1 [.mk 9 0 [] tA 0 [.mk 1 2 [] [] 0 [] 0 tI 0] 0 ⟨2,0,1⟩ 0] [] [] 0 r
theorem adB (V:List Vd)(i k:Nat)(h:fW (nm i) 0 V=none):sY H0 false T0 V (st i k)=.ok (zD i k V.length,V++[⟨nm i,ty k⟩]):=by
 have t1:cH [[82]] tA 0=(tB,true):=rfl
 have t2:cH [[82]] MP 0=(tI,true):=rfl
 have t3:cH [[82]] [82] 0=(⟨3,0,0⟩,true):=rfl
 have t4:cH [[82]] tA 1=(⟨2,0,1⟩,true):=rfl
 have r3:vz ⟨3,0,0⟩=true:=rfl
 match k with
 |0=>simp[st,zD,sY,cY,iM,H0,vO,kG,ji,h,bO,bh,bn,t1,ty]
 |1=>simp[st,zD,sY,cY,iM,H0,vO,kG,rW,cR,mD,jV,fz,fM,fN,ji,rV,E.ty,h,bO,bh,bn,t2,ty]
 |2=>simp[st,zD,sY,cY,iM,H0,vO,kG,rW,cR,mD,Dz,jV,fz,fM,fN,ji,rV,E.ty,h,bO,bh,bn,t3,r3,ty]
 |k+3=>simp[st,zD,sY,cY,iM,H0,vO,kG,rW,cR,mD,Dz,jV,fz,fM,fN,ji,rV,E.ty,h,bO,bh,bn,t1,t4,ty]
def Ag (i:Nat):List Nat->List Vd
 |[]=>[]
 |k::l=>⟨nm i,ty k⟩::Ag (i+1) l
def xy (i n:Nat):List Nat->List Sm
 |[]=>[]
 |k::l=>zD i k n::xy (i+1) (n+1) l
theorem Y6:((List.range 30).all λi=>(List.range i).all λj=>decide (nm i≠nm j))=true:=by kernel_rfl
theorem adC {i j:Nat}(hi:i<30)(hj:j<i):nm j≠nm i:=by
 have h:=List.all_eq_true.1 Y6 i (List.mem_range.2 hi)
 have h:=List.all_eq_true.1 h j (List.mem_range.2 hj)
 simp only[decide_eq_true_eq]at h
 exact λq=>h q.symm
theorem Lm {s:List UInt8}:∀{V:List Vd}{i:Nat},(∀v∈V,v.nm≠s)->fW s i V=none
 |[],_,_=>rfl
 |v::V,i,h=>by
  unfold fW
  rw[if_neg (h v List.mem_cons_self)]
  exact Lm λx hx=>h x (List.mem_cons_of_mem _ hx)
theorem Ft:∀(l:List Nat)(i:Nat)(V:List Vd),i+l.length<=30->(∀v∈V,∃j,j<i/\v.nm=nm j)->j6 H0 false T0 V (vJ i l)=.ok (xy i V.length l,V++Ag i l)
 |[],i,V,_,_=>by simp[vJ,xy,Ag,j6]
 |k::l,i,V,h,hV=>by
  simp only[List.length_cons]at h
  have h1:=adB V i k (Lm λv hv=>by
   obtain⟨j,hj,e⟩:=hV v hv
   rw[e];exact adC (by omega) hj)
  have h2:=Ft l (i+1) (V++[⟨nm i,ty k⟩]) (by omega) λv hv=>by
   rcases List.mem_append.1 hv with hv|hv
   ·obtain⟨j,hj,e⟩:=hV v hv
    exact⟨j,by omega,e⟩
   ·rw[List.mem_singleton.1 hv];exact⟨i,by omega,rfl⟩
  show j6 H0 false T0 V (st i k::vJ (i+1) l)=_
  rw[JS,h1]
  simp only
  rw[h2]
  simp[xy,Ag]
def Ih:List Nat->List T3
 |[]=>[]
 |k::l=>tm k++Ih l
theorem Y7 (i k:Nat)(r:Int)(_hr:0<=r)(nv a ns:Nat):(cS nv a ns (zD i k r)).vs=tm k/\(cS nv a ns (zD i k r)).is.length<=3/\(cS nv a ns (zD i k r)).ss.length<=1:=by
 match k with
 |0=>simp[zD,cS,tm,O0]
 |1=>simp[zD,cS,ko,cE,rO,cK,Out.app,fY,O0,tm]
 |2=>simp[zD,cS,ko,cE,rO,cK,Out.app,fY,O0,tm]
 |k+3=>simp[zD,cS,ko,cE,rO,cK,Out.app,fY,O0,tm]
theorem Ln:∀(l:List Nat)(i n nv a ns:Nat),(cB nv a ns (xy i n l)).vs=Ih l/\(cB nv a ns (xy i n l)).is.length<=3*l.length/\(cB nv a ns (xy i n l)).ss.length<=l.length
 |[],i,n,nv,a,ns=>by
  show (cB nv a ns []).vs=_/\(cB nv a ns []).is.length<=_/\(cB nv a ns []).ss.length<=_
  rw[JH];exact⟨rfl,by simp[O0],by simp[O0]⟩
 |k::l,i,n,nv,a,ns=>by
  obtain⟨a1,a2,a3⟩:=Y7 i k n (by omega) nv a ns
  have hb:=Ln l (i+1) (n+1) (nv+(cS nv a ns (zD i k n)).vs.length) (a+(cS nv a ns (zD i k n)).is.length) (ns+(cS nv a ns (zD i k n)).ss.length)
  obtain⟨b1,b2,b3⟩:=hb
  show (cB nv a ns (zD i k n::xy (i+1) (n+1) l)).vs=tm k++Ih l/\(cB nv a ns (zD i k n::xy (i+1) (n+1) l)).is.length<=_/\(cB nv a ns (zD i k n::xy (i+1) (n+1) l)).ss.length<=_
  rw[wZ]
  unfold DH
  dsimp only
  simp only[Out.app]
  rw[a1]at b1 b2 b3 ⊢
  rw[b1]
  refine⟨rfl,?_,?_⟩
  ·simp only[List.length_append,List.length_cons];omega
  ·simp only[List.length_append,List.length_cons];omega
theorem Ii:∀(l:List Nat)(i n:Nat)(su:List Bool),(gr su (xy i n l)).2=none
 |[],_,_,_=>by show (gr _ []).2=none;rw[G8]
 |k::l,i,n,su=>by
  have h1:(kC su (zD i k n)).2=none:=by
   match k with
   |0=>simp[zD,kC,jW]
   |1=>simp[zD,kC,jW,uD,l7]
   |2=>simp[zD,kC,jW,uD,l7]
   |k+3=>simp[zD,kC,jW,uD,l7]
  show (gr su (zD i k n::xy (i+1) (n+1) l)).2=none
  rw[uf,h1,Ii l];rfl
theorem Fu:∀(l:List Nat)(i:Nat),(Ag i l).length=l.length
 |[],_=>rfl
 |k::l,i=>by simp[Ag,Fu l]
theorem Ah:∀l:List Nat,(Ih l).length<=2*l.length
 |[]=>by simp[Ih]
 |k::l=>by
  have:=Ah l
  have:(tm k).length<=2:=by
   match k with
   |0=>simp[tm]
   |1=>simp[tm]
   |2=>simp[tm]
   |k+3=>simp[tm]
  simp only[Ih,List.length_append,List.length_cons];omega
theorem MY {p:Pg}{l:List Nat}(hl:l.length<=30)(h:Ld p=Ld (pg l)):∃(c:Cd)(ss:List Sd),c.vars=(Ag 0 l).map (·.ty)++Ih l/\zh p=.fm [.agg (rH H0 0 [c] ss),.agg [.int .i64 0,.int .i64 0]]:=by
 obtain⟨a,b,body,rfl,hb⟩:=shape h
 obtain⟨y,y0,W',h1,h2,h3⟩|⟨x,y,h1,h2⟩:=Ib (UG H0 false T0 [] hb)
 ·rw[Ft l 0 [] (by omega) (λv hv=>by simp at hv)]at h2
  cases h2
  have hF:lS (j8 ⟨[⟨[82],[],a⟩],[],[⟨k6,[],false,[],0,body,b⟩]⟩)=none:=rfl
  have hR:qj (aQ ⟨[⟨[82],[],a⟩],[],[⟨k6,[],false,[],0,body,b⟩]⟩) (aQ ⟨[⟨[82],[],a⟩],[],[⟨k6,[],false,[],0,body,b⟩]⟩).sigs [⟨k6,[],false,[],0,body,b⟩]=.ok [⟨Ag 0 l,y,b⟩]:=by
   show qj H0 [⟨k6,[],false,T0⟩] _=_
   simp only[qj]
   rw[h1];rfl
  have hS:zf ⟨[⟨[82],[],a⟩],[],[⟨k6,[],false,[],0,body,b⟩]⟩=none:=by
   unfold zf
   rw[hF]
   simp only
   rw[hR]
   show l7 (gr _ y).2 none=none
   have:=(Prod.mk.inj (Y0 h3 (Z6 ⟨k6,[],false,T0⟩ ⟨Ag 0 l,y,b⟩))).2
   rw[Ii]at this
   cases hq:(gr (Z6 ⟨k6,[],false,T0⟩ ⟨Ag 0 l,y,b⟩) y).2 with
   |none=>show l7 (gr (Z6 ⟨k6,[],false,T0⟩ ⟨Ag 0 l,y,b⟩) y).2 none=none;rw[hq];rfl
   |some v=>rw[hq]at this;cases this
  have hG:je ⟨[⟨[82],[],a⟩],[],[⟨k6,[],false,[],0,body,b⟩]⟩=false:=rfl
  have hM:gW ⟨[⟨[82],[],a⟩],[],[⟨k6,[],false,[],0,body,b⟩]⟩=0:=rfl
  obtain⟨c1,c2,c3⟩:=Ln l 0 0 l.length 0 0
  have hcb:cB l.length 0 0 y=cB l.length 0 0 (xy 0 0 l):=YW h3 _ _ _
  have Kb:=Fu l 0
  have htl:=Ah l
  have hbo:ij 0 ⟨Ag 0 l,y,b⟩=cB l.length 0 0 (xy 0 0 l):=by
   show cB (Ag 0 l).length 0 0 y=_
   rw[Kb,hcb]
  have vK:(cx 0 ⟨k6,[],false,T0⟩ ⟨Ag 0 l,y,b⟩).vars=(Ag 0 l).map (·.ty)++Ih l:=by
   show (Ag 0 l).map (·.ty)++(ij 0 ⟨Ag 0 l,y,b⟩).vs++[]=_
   rw[hbo,c1,List.append_nil]
  have hci:(cx 0 ⟨k6,[],false,T0⟩ ⟨Ag 0 l,y,b⟩).is.length<=3*l.length+1:=by
   show ((ij 0 ⟨Ag 0 l,y,b⟩).is++[_]).length<=_
   rw[hbo];simp;omega
  refine⟨cx 0 ⟨k6,[],false,T0⟩ ⟨Ag 0 l,y,b⟩,([]:List Sd)++(ij ([]:List Sd).length ⟨Ag 0 l,y,b⟩).ss.map (λt=>⟨([]:List Cd).length,t⟩),vK,?_⟩
  unfold zh
  rw[hF]
  simp only
  rw[hR]
  simp only
  rw[hS,hG,hM]
  simp only[Bool.false_eq_true,if_false]
  show YE H0 0 (B8 [] [] 0 [⟨k6,[],false,T0⟩] [⟨Ag 0 l,y,b⟩])=_
  rw[yp,if_neg,Cg]
  ·rfl
  ·simp only[List.length_nil]
   rw[vK,hbo]
   simp only[List.length_append,List.length_map]
   omega
 ·rw[Ft l 0 [] (by omega) (λv hv=>by simp at hv)]at h2
  cases h2
end MX
namespace MX
open Ax Go cp V7 j4 k8 uF
open xD (zh rH Q1 Rr Co Lj DU)
open N7 U7
def zj (x:Int):Int:=IntKind.i64.wrap ((BitVec.ofInt IntKind.i64.bits x &&& BitVec.ofInt IntKind.i64.bits 1023).toNat)
def m4 (x:Int):Nat:=((zj x).tmod 4).toNat
theorem UK (x:Int):0<=zj x/\zj x<=1023:=by
 have h:(BitVec.ofInt IntKind.i64.bits x &&& BitVec.ofInt IntKind.i64.bits 1023).toNat<=1023:=by
  rw[BitVec.toNat_and]
  exact Nat.and_le_right
 unfold zj
 rw[wrap64 (by omega) (by omega)]
 omega
theorem Rt (x:Int):(zj x).tmod 4=(m4 x:Int)/\m4 x<4:=by
 obtain⟨h1,h2⟩:=UK x
 unfold m4
 have h3:=Int.tmod_nonneg 4 h1
 have h4:=Int.tmod_lt_of_pos (zj x) (by decide:(0:Int)<4)
 omega
theorem Ij:∀(l:List Nat)(i k:Nat),kK i (l++[k])=kK i l++(Nj (i+l.length) k++[32])
 |[],i,k=>by simp[kK]
 |a::l,i,k=>by
  have:=Ij l (i+1) k
  simp only[List.cons_append,kK,this,List.length_cons]
  rw[show i+1+l.length=i+(l.length+1) by omega]
  simp
theorem Ru {n:Int}(h1:0<=n)(h2:n<256):IntKind.u8.wrap n=n:=by
 have h:IntKind.u8.wrap n=n % 256:=rfl
 omega
theorem Rv {inp:AV}(hi:vM inp=true)(hY:mz inp=true):(aW S).call 0 0 6 [inp] []=some (.bool true,[]):=by
 have kn:=λwl li st=>OB (sf:=s8) rfl rfl rfl Q1 wl li st
 have hs:=Jc hi
 have hv:=sV hY hs
 have hl:=Tv hi
 have hpi:=cm hs
 have hz:=Oz hi
 refine bT (sf:=s6) rfl rfl (by simp[AV.ah,hpi]) rfl rfl ?_
 generalize hL:Ax.dI inp=L at *
 by_cases c0:(30:Int)<(L.length:Int)
 ·simp[s6,hs,hv,hl,c0]
 obtain⟨ks,mq⟩:∃ks,ks=L.map m4:=⟨_,rfl⟩
 have iK:ks.length=L.length:=by rw[mq];simp
 have YQ:∀k∈ks,k<4:=λk hk=>by
  rw[mq]at hk
  obtain⟨x,_,rfl⟩:=List.mem_map.1 hk
  exact(Rt x).2
 simp[s6,hs,hv,hl,c0]
 refine bC Vm.eq_1 (λk:Nat=>⟨[(0,.val inp),(3,.val (.str (kK 0 (ks.take k)))),(4,.val (b8 3 ((ks.take k).map λk=>(ty k).cells))),(5,.val (.int .i64 k))],[[],[],[],[]],[]⟩)
  (λk=>k<=L.length) (λk=>L.length-k) 0 (by simp[kK,b8]) (by simp) ?_
 intro k hk ih
 by_cases aZ:k<L.length
 ·have rE:IntKind.i64.wrap ((k:Int)+1)=((k+1:Nat):Int):=by rw[wrap64]<;>omega
  have Y8:(k:Int)<(L.length:Int):=by omega
  have ey:=ih (k+1) (by omega) (by omega)
  have Nb:k<ks.length:=by omega
  have hlk:(ks.take k).length=k:=by simp;omega
  rw[List.take_succ_eq_append_getElem Nb,Ij,hlk,Nat.zero_add,List.map_append,List.map_cons,List.map_nil]at ey
  have hgk:ks[k]=m4 L[k]:=by simp[mq]
  obtain⟨m1,m2⟩:=Rt L[k]
  have q2:((k:Nat):Int).tmod 10=(k:Int) % 10:=Int.tmod_eq_emod_of_nonneg (by omega)
  have w1:IntKind.i64.wrap ((k:Int) / 10)=(k:Int) / 10:=by rw[wrap64]<;>omega
  have w2:IntKind.i64.wrap (97+(k:Int) / 10)=97+(k:Int) / 10:=by rw[wrap64]<;>omega
  have w3:IntKind.i64.wrap (97+(k:Int) % 10)=97+(k:Int) % 10:=by rw[wrap64]<;>omega
  have u1:IntKind.u8.wrap (97+(k:Int) / 10)=97+(k:Int) / 10:=Ru (by omega) (by omega)
  have u2:IntKind.u8.wrap (97+(k:Int) % 10)=97+(k:Int) % 10:=Ru (by omega) (by omega)
  have b1:(0<=97+(k:Int) / 10)=True:=eq_true (by omega)
  have b2:(97+(k:Int) / 10<256)=True:=eq_true (by omega)
  have b3:(0<=97+(k:Int) % 10)=True:=eq_true (by omega)
  have b4:(97+(k:Int) % 10<256)=True:=eq_true (by omega)
  have n1:(97+(k:Int) / 10).toNat=97+k / 10:=by omega
  have n2:(97+(k:Int) % 10).toNat=97+k % 10:=by omega
  have hlr:k<(ints L).length:=by simpa [ints] using aZ
  have QY:(ints L)[k]'hlr=[.int .i64 L[k]]:=by simp[ints]
  have ha:IntKind.i64.wrap ((BitVec.ofInt IntKind.i64.bits L[k] &&& BitVec.ofInt IntKind.i64.bits 1023).toNat)=zj L[k]:=rfl
  simp at ha
  generalize hx:L[k]=x at *
  have htl:(kK 0 (ks.take k)).length<=2000:=by
   have:=xx (ks.take k) 0
   rw[hlk]at this
   omega
  generalize kK 0 (ks.take k)=tx at *
  have htx:∀n:Nat,2000<=n->tx.length<=n:=λn h=>Nat.le_trans htl h
  generalize hwt:(ks.take k).map (λk=>(ty k).cells)=wt at *
  have hwl:wt.length=k:=by rw[<-hwt];simp;omega
  have ki:(k+1)*24<=room:=by unfold room;omega
  have nc:=λr:List AV=>eU (sz:=3) (bytes:=24) (r:=wt) (new:=[r])
  rw[hgk]at ey
  generalize m4 x=m at *
  have ym:24<=room:=by decide
  rcases (by omega:m=0\/m=1\/m=2\/m=3) with rfl|rfl|rfl|rfl
  all_goals
   simp only[ty,T3.cells,Nj,wv,wl,tl,nm]at ey
   simp[-UInt8.ofNat_add,aZ,Y8,rE,hz,hs,hv,hl,QY,q2,w1,w2,w3,u1,u2,b1,b2,b3,b4,n1,n2,bytesOf,ha,m1,fits,nc,hwl,ki,htx,af,AV.view]
   exact ey
 ·have hkL:k=L.length:=by omega
  subst hkL
  rw[show ks.take L.length=ks from by rw[<-iK,List.take_length]]
  have htl:(kK 0 ks).length<=2000:=by
   have:=xx ks 0
   omega
  simp[hs,hv,hl]
  refine bC Vn.eq_1 (λk:Nat=>⟨[(0,.val inp),(3,.val (.str (kK 0 ks))),(4,.val (b8 3 ((ks.map λk=>(ty k).cells)++(Ih (ks.take k)).map T3.cells))),(8,.val (.int .i64 k))],[[],[],[],[]],[]⟩)
   (λk=>k<=L.length) (λk=>L.length-k) 0 (by simp[Ih]) (by simp) ?_
  intro k hk rA
  by_cases aZ:k<L.length
  ·have rE:IntKind.i64.wrap ((k:Int)+1)=((k+1:Nat):Int):=by rw[wrap64]<;>omega
   have Y8:(k:Int)<(L.length:Int):=by omega
   have ey:=rA (k+1) (by omega) (by omega)
   have Nb:k<ks.length:=by omega
   have hlk:(ks.take k).length=k:=by simp;omega
   have aie:∀(l:List Nat) (a:Nat),Ih (l++[a])=Ih l++tm a:=by
    intro l a
    induction l with
    |nil=>simp[Ih]
    |cons b l ih=>simp[Ih,ih]
   rw[List.take_succ_eq_append_getElem Nb,aie]at ey
   have hgk:ks[k]=m4 L[k]:=by simp[mq]
   obtain⟨m1,m2⟩:=Rt L[k]
   have hlr:k<(ints L).length:=by simpa [ints] using aZ
   have QY:(ints L)[k]'hlr=[.int .i64 L[k]]:=by simp[ints]
   have ha:IntKind.i64.wrap ((BitVec.ofInt IntKind.i64.bits L[k] &&& BitVec.ofInt IntKind.i64.bits 1023).toNat)=zj L[k]:=rfl
   simp at ha
   rw[hgk,List.map_append,<-List.append_assoc]at ey
   have hwl:((ks.map λk=>(ty k).cells)++(Ih (ks.take k)).map T3.cells).length<=100:=by
    have:=Ah (ks.take k)
    rw[hlk]at this
    simp only[List.length_append,List.length_map];omega
   generalize hx:L[k]=x at *
   generalize (ks.map λk=>(ty k).cells)++(Ih (ks.take k)).map T3.cells=wt at *
   have ki:(wt.length+1)*24<=room:=by unfold room;omega
   have Y9:(wt.length+2)*24<=room:=by unfold room;omega
   have nc:=λnew:List (List AV)=>eU (sz:=3) (bytes:=24) (r:=wt) (new:=new)
   generalize m4 x=m at *
   rcases (by omega:m=0\/m=1\/m=2\/m=3) with rfl|rfl|rfl|rfl
   all_goals
    simp only[tm,List.map_cons,List.map_nil,T3.cells,List.append_nil]at ey
    simp[aZ,Y8,rE,hz,hs,hv,hl,QY,ha,m1,fits,nc,ki,Y9,af,AV.view]
    exact ey
  ·have hkL:k=L.length:=by omega
   subst hkL
   rw[show ks.take L.length=ks from by rw[<-iK,List.take_length]]
   obtain⟨p',Wn,he⟩:=Rs ks (by omega) YQ
   obtain⟨c,ss,vK,hmk⟩:=MY (by omega) he
   have Su:=Co (Y3 ks)
   have pk:=λwl li st=>T9 wl li (Y3 ks) st
   rw[Wn]at Su pk
   have mk:=λwl li st=>xD.EP wl li p' st (acJ Su.inn) (acK Su.inn) (Lj Su) (DU Su)
   rw[hmk]at mk
   obtain⟨TX,hTX⟩:∃TX,TX=Y3 ks:=⟨_,rfl⟩
   have htx:(114::101::99::111::114::100::32::82::32::123::32::125::32::102::117::110::99::32::109::97::105::110::40::41::32::123::32::(kK 0 ks++[125]):List UInt8)=TX:=by rw[hTX];simp[Y3,Ig]
   rw[<-hTX]at pk
   have Ki:(ks.map λk=>(ty k).cells)++(Ih ks).map T3.cells=c.vars.map T3.cells:=by
    have:∀(l:List Nat) (i:Nat),(Ag i l).map (·.ty)=l.map ty:=by
     intro l
     induction l with
     |nil=>intro i;rfl
     |cons a l ih=>intro i;simp[Ag,ih]
    rw[vK,this,List.map_append,List.map_map];rfl
   rw[Ki]
   have Rw:c.vars.length<=100:=by
    rw[vK]
    have:=Ah ks
    have:=Fu ks 0
    simp only[List.length_append,List.length_map];omega
   clear vK Ki
   have r1:aG (aA 3 (p'.bw.map Rc.row))=true:=aX
   have r2:(aA 3 (p'.bw.map Rc.row)).view=aA 3 (p'.bw.map Rc.row):=aY
   have f1:aG (aA 7 (p'.funcs.map Fc.row))=true:=aX
   have f2:(aA 7 (p'.funcs.map Fc.row)).view=aA 7 (p'.funcs.map Fc.row):=aY
   have g1:aG (aA 4 (p'.globals.map PD.cells))=true:=aX
   have g2:(aA 4 (p'.globals.map PD.cells)).view=aA 4 (p'.globals.map PD.cells):=aY
   unfold Pg.row at pk mk
   simp only at pk
   generalize aA 3 (p'.bw.map Rc.row)=PR at *
   generalize aA 7 (p'.funcs.map Fc.row)=PF at *
   generalize aA 4 (p'.globals.map PD.cells)=PG at *
   have aih:aA 7 ([c].map Cd.row)=.cN 7 [Cd.row c]:=rfl
   unfold rH at mk
   rw[aih]at mk
   simp only[Cd.row]at mk
   have x1:aG (aA 2 (H0.ct.map gV))=true:=aX
   have x2:(aA 2 (H0.ct.map gV)).view=aA 2 (H0.ct.map gV):=aY
   have y1:aG (aA 3 (H0.globals.map (λv=>v.ty.cells)))=true:=aX
   have y2:(aA 3 (H0.globals.map (λv=>v.ty.cells))).view=aA 3 (H0.globals.map (λv=>v.ty.cells)):=aY
   have z1:aG (aA 4 (ss.map Sd.row))=true:=aX
   have z2:(aA 4 (ss.map Sd.row)).view=aA 4 (ss.map Sd.row):=aY
   have i1:aG (aA 6 (c.is.map In.row))=true:=aX
   have i2:(aA 6 (c.is.map In.row)).view=aA 6 (c.is.map In.row):=aY
   have v1:aG (aA 3 (c.vars.map T3.cells))=true:=aX
   have v2:(aA 3 (c.vars.map T3.cells)).view=aA 3 (c.vars.map T3.cells):=aY
   have v3:aP (aA 3 (c.vars.map T3.cells))=c.vars.map T3.cells:=aR
   have v4:cI 3 (aA 3 (c.vars.map T3.cells))=true:=zL (by simp[fits])
   have m1:aG (b8 3 (c.vars.map T3.cells))=true:=cV
   have m2:(b8 3 (c.vars.map T3.cells)).view=aA 3 (c.vars.map T3.cells):=rfl
   have m3:aP (b8 3 (c.vars.map T3.cells))=c.vars.map T3.cells:=qz
   have m4':cI 3 (b8 3 (c.vars.map T3.cells))=true:=by rw[wC];simp[fits]
   have KS:(kK 0 ks).length<=4611686018427380000:=by omega
   have Kb:(c.vars.map T3.cells).length=c.vars.length:=by simp
   generalize aA 2 (H0.ct.map gV)=SV at *
   generalize aA 3 (H0.globals.map (λv=>v.ty.cells))=GV at *
   generalize aA 4 (ss.map Sd.row)=TV at *
   generalize aA 6 (c.is.map In.row)=IV at *
   generalize aA 3 (c.vars.map T3.cells)=VV at *
   generalize b8 3 (c.vars.map T3.cells)=MV at *
   clear hTX
   have hb:∀n:Nat,2100<=n->27+(kK 0 ks).length<=n:=λn h=>by omega
   have NP:∀n:Nat,2000<=n->(kK 0 ks).length<=n:=λn h=>Nat.le_trans htl h
   simp[hs,hv,hl,htx,hb,NP,pk,mk,r1,r2,f1,f2,g1,g2,x1,x2,y1,y2,z1,z2,v1,v2,v3,m2,Kb,af,AV.view,AV.cy,fits]
   refine bC Vo.eq_1 (λk:Nat=>⟨[(4,.val MV),(11,.fp 2 0),(13,.val (.int .i64 k))],[[PR,PG,PF],[.int .i64 0,.int .i64 0],[SV,GV,.cN 7 [[.int .i64 c.params,VV,.bool c.has,.int .i64 c.res.b,.int .i64 c.res.r,.int .i64 c.res.d,IV]],TV,.int .i64 0],[.int .i64 0,.int .i64 0]],[]⟩)
    (λk=>k<=c.vars.length) (λk=>c.vars.length-k) 0 (by simp) (by simp) ?_
   intro k hk ih3
   by_cases aZ:k<c.vars.length
   ·have rE:IntKind.i64.wrap ((k:Int)+1)=((k+1:Nat):Int):=by rw[wrap64]<;>omega
    have ey:=ih3 (k+1) (by omega) (by omega)
    have hlr:k<(c.vars.map T3.cells).length:=by omega
    have QY:(c.vars.map T3.cells)[k]'hlr=c.vars[k].cells:=by simp
    simp only[T3.cells]at QY
    have UT:cI 7 (.cN 7 [[.int .i64 c.params,VV,.bool c.has,.int .i64 c.res.b,.int .i64 c.res.r,.int .i64 c.res.d,IV]])=true:=rfl
    simp[aZ,rE,QY,v1,v2,v3,v4,m2,Kb,fits,AV.view,aB,az]
    exact ey
   ·simp[aZ,m1,m3,Kb,kn]
end MX
