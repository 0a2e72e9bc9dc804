/-
  Programs that are read are small.
-/
import Derived.Test.YtachcambnjecnaaN
import Derived.Test.YtachcambnjecnaaP
import Derived.Test.YtachcambnjecnaaD
import Derived.Test.YtachcambnjecnaaS
import Derived.Test.YtachcambnjecnaaT
import Derived.KernelRfl
import Derived.Test.YtachcambnjecnaaI
import Derived.Test.YtachcambnjecnaaX
import Derived.Test.YtachcambnjecnaaK
import Derived.Test.YtachcambnjecnaaF

set_option maxRecDepth 100000
set_option maxHeartbeats 4000000
namespace yB
open Ax Go cz V7 kL lV K9 S9 N7 U7
theorem Ji(s:List UInt8):∀f∈(mU s).1.funcs,Sm.eA f.body<=6001:=by
 unfold mU
 split
 ·rename_i hl
  generalize htp:U2.Ct s=z
  obtain⟨rows,e⟩:=z
  cases e with
  |some e=>intro f hf;cases hf
  |none=>
   obtain⟨ji,hlen⟩:=F4 htp
   obtain⟨x,hx⟩:=qD (lS rows)
   simp only
   rw[hx,Option.getD_some]
   have hTl:(lS rows).length=rows.length:=by simp[lS]
   intro f hf
   have:=NC hx f hf
   omega
 ·intro f hf;cases hf
theorem aay(p:Pg)(hp:Pg.In 6000 p):∀s∈(aS p).sigs,s.ps.length<=7:=by
 intro s hs
 obtain⟨f,hf,rfl⟩:=List.mem_map.1 hs
 have:=(hp.f.2 f hf).len
 simpa [wP,mD] using this
structure SO (p:Pg):Prop where
 inn:Pg.In 6000 p
 Ea:∀f∈p.funcs,Sm.eA f.body<=12010
theorem Di(s:List UInt8):SO (mU s).1:=⟨(RC s).1,λf hf=>by have:=Ji s f hf;omega⟩
theorem MB{p:Pg}(h:SO p):∀f∈p.funcs,f.params.length+Sm.eA f.body<1000000000:=λf hf=>by
 have:=h.Ea f hf
 have:=(h.inn.f.2 f hf).len
 omega
theorem KX{p:Pg}(h:SO p):∀bs,q8 (aS p) (aS p).sigs p.funcs=.ok bs->∀b∈bs,Sm.eA b.code<=12010/\b.vars.length<=24020:=λbs hR b hb=>by
 have n5:=EC hR h.Ea b hb
 have Dn:=Io (n:=12010) (Mg p) hR (λs hs=>((Mg p).sigs s hs).2) (λs hs=>by have:=aay p h.inn s hs;omega) h.Ea b hb
 omega
theorem EU{p:Pg}(h:SO p):∀bs,q8 (aS p) (aS p).sigs p.funcs=.ok bs->∀b∈bs,Sm.eA b.code<100000000/\b.vars.length<100000000:=λbs hR b hb=>by
 have:=KX h bs hR b hb
 omega
end yB
namespace Sit
open Ax Go V7 kL A7 U2 N7
open Lx (Je KS Mz Gt)
abbrev TP:=TS×Nat
def sh(k:Nat)(x:TP):TP:=(x.1,x.2+k)
def Oi(r:List AV):TS×Int:=(Je r,(RA r).a)
def atP(a:Nat)(x:TP):TS×Int:=(x.1,((a+x.2:Nat):Int))
def Lp(l:List UInt8)(ts:List TP):Prop:=∀a n:Nat,l.length+1<=n->∃rows,tq n (a+eE l) (l.drop (eE l))=(rows,none)/\rows.map Oi=ts.map (atP a)
theorem aj6(l:List TP):l.map (sh 0)=l:=by
 have:sh 0=id:=by funext x;rfl
 rw[this,List.map_id]
theorem SQ(a b:Nat)(l:List TP):(l.map (sh a)).map (sh b)=l.map (sh (a+b)):=by
 rw[List.map_map]
 refine List.map_congr_left λx _=>?_
 simp[sh,Nat.add_assoc]
theorem Xz(a k:Nat)(l:List TP):(l.map (sh k)).map (atP a)=l.map (atP (a+k)):=by
 rw[List.map_map]
 refine List.map_congr_left λx _=>?_
 show (x.1,((a+(x.2+k):Nat):Int))=(x.1,((a+k+x.2:Nat):Int))
 rw[show a+(x.2+k)=a+k+x.2 by omega]
theorem aaz:Lp [] [((0,[],0),0)]:=by
 intro a n hn
 cases n with
 |zero=>simp at hn
 |succ n=>exact⟨_,rfl,rfl⟩
theorem Jj{c:UInt8}{l:List UInt8}{ts:List TP}(hc:uk c=true)(h:Lp l ts):Lp (c::l) (ts.map (sh 1)):=by
 intro a n hn
 have e:eE (c::l)=eE l+1:=by
  show lG (l.length+1) (c::l)=_
  unfold lG
  rw[if_pos hc];rfl
 simp only[List.length_cons]at hn
 rw[e,show a+(eE l+1)=(a+1)+eE l by omega,List.drop_succ_cons,Xz]
 exact h (a+1) n (by omega)
theorem SU{c:UInt8}{l:List UInt8}{k:Nat}{t:TS}{ts:List TP}(hw:uk c=false)(hc:qB (c::l)=false)(h1:∀a:Nat,∃row,lg a (c::l)=(row,k+1)/\Oi row=(t,(a:Int)))(h2:Lp ((c::l).drop (k+1)) ts):Lp (c::l) ((t,0)::ts.map (sh (k+1))):=by
 intro a n hn
 have e:eE (c::l)=0:=by
  show lG (l.length+1) (c::l)=_
  unfold lG
  rw[if_neg (by rw[hw];decide),if_neg (by rw[hc];decide)]
 rw[e,List.drop_zero,Nat.add_zero]
 cases n with
 |zero=>simp at hn
 |succ n=>
  obtain⟨row,r1,r2⟩:=h1 a
  simp only[List.length_cons]at hn
  obtain⟨rows,b1,b2⟩:=h2 (a+(k+1)) n (by simp only[List.length_drop,List.length_cons];omega)
  unfold tq
  rw[r1]
  simp only
  rw[b1]
  refine⟨_,rfl,?_⟩
  rw[List.map_cons,List.map_cons,Xz,r2,b2]
  rfl
theorem V5(a:Nat)(c:UInt8)(P r:List UInt8)(h:(lg 0 (c::P++[32])).2≠0):∃row,lg a (c::P++32::r)=(row,(lg 0 (c::P++[32])).2)/\Oi row=(Je (lg 0 (c::P++[32])).1,(a:Int)):=by
 obtain⟨row,h1,h2⟩:=Lx.aar a c P r
 refine⟨row,h1,?_⟩
 obtain⟨x,h3,h4⟩:=Me a (c::P++32::r) (by rw[h1];exact h)
 rw[h1]at h3
 simp only at h3
 unfold Oi
 rw[h2]
 subst h3
 have:RA x.cells=x:=rfl
 rw[this,h4]
def DN:Nat->List UInt8->Option (List TP)
 |0,_=>none
 |_+1,[]=>some []
 |n+1,c::P=>if uk c then (match DN n P with|some ts=>some (ts.map (sh 1))|none=>none) else if qB (c::P++[32]) then none else
   match lg 0 (c::P++[32]) with
   |(_,0)=>none
   |(row,k+1)=>if Nat.ble (k+1) (P.length+1) then (match DN n ((c::P).drop (k+1)) with|some ts=>some ((Je row,0)::ts.map (sh (k+1)))|none=>none) else none
theorem Gw:∀(n:Nat)(P:List UInt8)(ts:List TP),DN n P=some ts->∀rest us,Lp (32::rest) us->Lp (P++32::rest) (ts++us.map (sh P.length))
 |0,_,_,h,_,_,_=>by cases h
 |n+1,[],ts,h,rest,us,hx=>by
  unfold DN at h
  cases h
  rw[List.length_nil,aj6];exact hx
 |n+1,c::P,ts,h,rest,us,hx=>by
  unfold DN at h
  split at h
  ·rename_i hw
   split at h
   ·rename_i ts2 hl
    cases h
    have:=Jj hw (Gw n P ts2 hl rest us hx)
    rw[List.map_append,SQ]at this
    exact this
   ·cases h
  ·rename_i hw
   split at h
   ·cases h
   ·rename_i hc
    obtain⟨o1,k0,uv⟩:∃o1 k0,lg 0 (c::P++[32])=(o1,k0):=⟨_,_,rfl⟩
    rw[uv]at h
    cases k0 with
    |zero=>cases h
    |succ k=>
     simp only at h
     split at h
     ·rename_i hle
      have JN:=Nat.le_of_ble_eq_true hle
      split at h
      ·rename_i ts2 hl
       cases h
       have RX:qB (c::P++32::rest)=false:=by
        have:qB (c::P++32::rest)=qB (c::P++[32]):=by
         cases P with
         |nil=>rfl
         |cons d P=>rfl
        rw[this];simpa using hc
       have hr:=SU (k:=k) (l:=P++32::rest) (t:=Je o1) (ts:=ts2++us.map (sh ((c::P).drop (k+1)).length)) (by simpa using hw) RX (λa=>?_) ?_
       ·rw[List.map_append,SQ]at hr
        have BE:((c::P).drop (k+1)).length+(k+1)=(c::P).length:=by
         rw[List.length_drop,List.length_cons];omega
        rw[BE]at hr
        exact hr
       ·have:=V5 a c P rest (by rw[uv];simp)
        rw[uv]at this
        exact this
       ·have hd:(c::(P++32::rest)).drop (k+1)=(c::P).drop (k+1)++32::rest:=by
         rw[<-List.cons_append,List.drop_append_of_le_length (by simpa using JN)]
        have:=Gw n _ ts2 hl rest us hx
        rw[<-hd]at this
        exact this
      ·cases h
     ·cases h
theorem MD{n:Nat}{P rest:List UInt8}{ts vs:List TP}(h:DN n P=some ts)(hx:Lp rest vs):Lp (P++32::rest) (ts++vs.map (sh (1+P.length))):=by
 have:=Gw n P ts h rest _ (Jj (c:=32) rfl hx)
 rwa [SQ]at this
def nF:List UInt8:=[102]
def nG:List UInt8:=[103]
def nR:List UInt8:=[82]
def qK:List UInt8:=[109,97,105,110]
def De:List UInt8:=[102,117,110,99,32,102,40,41,32,123]
def Jw:List UInt8:=[103,40,110,101,119,32,82,41,59]
def XA:List UInt8:=[125,32,102,117,110,99,32,109,97,105,110,40,41,32,123]
def tlB:List UInt8:=[125,32,102,117,110,99,32,103,40,114,58,32,82,41,32,123,32,125,32,114,101,99,111,114,100,32,82,32,123]
def lC(P:List UInt8):Nat->List UInt8->List UInt8
 |0,r=>r
 |n+1,r=>P++32::lC P n r
def OH(a b:Nat):List UInt8:=De++32::lC Jw a (XA++32::lC Jw b (tlB++32::[125]))
def pcT:List TP:=[(Nm nG,0),(W [40],1),(W [110,101,119],2),(Nm nR,6),(W [41],7),(W [59],8)]
def DL:List TP:=[(W [102,117,110,99],0),(Nm nF,5),(W [40],6),(W [41],7),(W [123],9)]
def mdT:List TP:=[(W [125],0),(W [102,117,110,99],2),(Nm qK,7),(W [40],11),(W [41],12),(W [123],14)]
def tlT:List TP:=[(W [125],0),(W [102,117,110,99],2),(Nm nG,7),(W [40],8),(Nm [114],9),(W [58],10),(Nm nR,12),(W [41],13),(W [123],15),(W [125],17),(W [114,101,99,111,114,100],19),(Nm nR,26),(W [123],28)]
def enT:List TP:=[(W [125],0),((0,[],0),1)]
theorem aaB:DN 20 Jw=some pcT:=by kernel_rfl
theorem aaC:DN 20 De=some DL:=by kernel_rfl
theorem aaD:DN 30 XA=some mdT:=by kernel_rfl
theorem aaE:DN 40 tlB=some tlT:=by kernel_rfl
theorem ae9:Lp [125] enT:=SU (k:=0) rfl rfl (λ_a=>⟨_,rfl,rfl⟩) aaz
def Gx:Nat->List TP->List TP
 |0,r=>r
 |n+1,r=>pcT++(Gx n r).map (sh 10)
theorem KY:∀(n:Nat)(r:List UInt8)(vs:List TP),Lp r vs->Lp (lC Jw n r) (Gx n vs)
 |0,_,_,h=>h
 |n+1,r,vs,h=>MD aaB (KY n r vs h)
def Oj(a b:Nat):List TP:=DL++(Gx a (mdT++(Gx b (tlT++enT.map (sh 30))).map (sh 16))).map (sh 11)
theorem aaF(a b:Nat):Lp (OH a b) (Oj a b):=MD aaC (KY a _ _ (MD aaD (KY b _ _ (MD aaE ae9))))
theorem KZ(k:Nat)(l:List TP):(l.map (sh k)).map (·.1)=l.map (·.1):=by rw[List.map_map];rfl
def cat:Nat->List TS->List TS
 |0,r=>r
 |n+1,r=>pcT.map (·.1)++cat n r
theorem Gy:∀(n:Nat)(vs:List TP),(Gx n vs).map (·.1)=cat n (vs.map (·.1))
 |0,_=>rfl
 |n+1,vs=>by
  show (pcT++(Gx n vs).map (sh 10)).map (·.1)=_
  rw[List.map_append,KZ,Gy n vs];rfl
theorem ME:∀(n:Nat)(vs:List TP)(i:Nat),(Gx n vs)[6*n+i]?=(vs[i]?).map (sh (10*n))
 |0,vs,i=>by
  have:sh (10*0)=id:=by funext x;rfl
  simp[Gx,this]
 |n+1,vs,i=>by
  show (pcT++(Gx n vs).map (sh 10))[6*(n+1)+i]?=_
  have hl:pcT.length=6:=rfl
  rw[List.getElem?_append_right (by omega),hl,show 6*(n+1)+i-6=6*n+i by omega,List.getElem?_map,ME n vs i]
  cases vs[i]? with
  |none=>rfl
  |some x=>
   show some (x.1,x.2+10*n+10)=some (x.1,x.2+10*(n+1))
   rw[show x.2+10*n+10=x.2+10*(n+1) by omega]
def To:Sm:=.mk 9 [] [] 0 [.mk 7 0 nG [] 0 [.mk 8 0 [] nR 0 [] 0 T0 0] 0 T0 0] [] [] 0 0
def tA(n:Nat):List Sm:=List.replicate n To
def AB(nm:List UInt8)(n:Nat):Fc:=⟨nm,[],false,[],0,tA n,0⟩
def K0:Fc:=⟨nG,[⟨[114],nR,0,0⟩],false,[],0,[],0⟩
def OI:Rc:=⟨nR,[],0⟩
theorem K1:∀(n:Nat)(r:List TS),cat n r=uB (tA n)++r
 |0,r=>rfl
 |n+1,r=>by
  show pcT.map (·.1)++cat n r=(uS To++uB (tA n))++r
  rw[K1 n r,List.append_assoc];rfl
theorem V6(a b:Nat):(Oj a b).map (·.1)=sV (AB nF a)++(sV (AB qK b)++(sV K0++(ym OI++[(0,[],0)]))):=by
 unfold Oj
 rw[List.map_append,KZ,Gy,List.map_append,KZ,Gy,K1,K1]
 unfold sV
 simp only[AB,List.append_assoc,List.cons_append]
 exact rfl
theorem V8(a b:Nat):(Oj a b)[1]?=some (Nm nF,5):=rfl
theorem V9(a b:Nat):(Oj a b)[6*a+7]?=some (Nm qK,10*a+18):=by
 unfold Oj
 have hl:DL.length=5:=rfl
 rw[List.getElem?_append_right (by omega),hl,show 6*a+7-5=6*a+2 by omega,List.getElem?_map,ME]
 show some (Nm qK,7+10*a+11)=_
 rw[show 7+10*a+11=10*a+18 by omega]
theorem Wa{T:List Tk}{f:Nat}{q r:RQ}{x:Fc}(h:pW T f q=some (x,r)):x.a=(ey T q).a:=by
 unfold pW at h
 obtain⟨y,_,h2⟩:=Option.bind_eq_some_iff.1 h
 split at h2
 ·obtain⟨z,_,h4⟩:=Option.bind_eq_some_iff.1 h2
  cases h4;rfl
 ·obtain⟨z,_,h4⟩:=Option.bind_eq_some_iff.1 h2
  cases h4;rfl
theorem Gz{T:List Tk}(c:Fc)(acc:List Fc)(rs:List Rc)(gs:List PD)(f:Nat)(q:RQ)(p:Pg)(r:RQ)(rest:List TS)(h:jv T f ⟨rs,gs,acc⟩ q=some (p,r))(hf:q.fe=0)(h0:q.op=0)(hn:acc.length+1<=16)
  (hr:WfF c)(hd:dB c.body+1<=50)(hh:rK T q.at_ (sV c++rest)):∃f2 x1,jv T f2 ⟨rs,gs,acc++[x1]⟩ (mv q (sV c).length)=some (p,r)/\vH x1=vH c/\x1.a=(T.getD (q.at_+1) Rg).a:=by
 cases f with
 |zero=>simp[jv]at h
 |succ f=>
  unfold jv at h
  simp only[sV,List.append_assoc,List.cons_append]at hh
  obtain⟨t,hh⟩:=hh
  change bT T _=_ at t
  rw[aV hf,aV hf,aV hf,Jb,t,if_pos ⟨hf,ae1 _⟩,if_neg (by
   rintro (⟨b,_⟩|⟨b,_⟩|⟨_,b⟩)
   ·revert b;decide
   ·revert b;decide
   ·simp only at b;omega),if_neg (by decide),if_neg (by decide),if_pos (by decide)]at h
  obtain⟨⟨x1,x2⟩,h1,h2⟩:=Option.bind_eq_some_iff.1 h
  have J8:rK T (q.at_+1) ((Nm c.name::W [40]::(sU c.params++W [41]::((if c.bO then W [58]::uT c.on c.od else [])++W [123]::(uB c.body++[W [125]]))))++rest):=by
   simp only[List.append_assoc,List.cons_append]
   exact hh
  obtain⟨rfl,b2⟩:=F3 h1 hf h0 hr (.inr hd) (cW.1 J8).1
  refine⟨f,x1,?_,b2,Wa h1⟩
  have:mv q (sV c).length=mv (ay q) ((sU c.params).length+(if c.bO then W [58]::uT c.on c.od else []).length+(uB c.body).length+5):=by
   simp only[mv,ay,sV,List.length_append,List.length_cons,List.length_nil,RQ.mk.injEq,and_true];omega
  rw[this];exact h2
theorem afa:Xq To:=by simp[To,A7.KQ,A7.aap,Sm.k,Sm.es,Sm.bd,Sm.el,Sm.od,A7.VW,A7.ER,A7.Wf,lV.dY,E.k]
theorem GA:∀n:Nat,ER (tA n)/\dB (tA n)<=2
 |0=>⟨by simp[tA,ER],by simp[tA,dB]⟩
 |n+1=>by
  obtain⟨h1,h2⟩:=GA n
  have hd:dS To<=2:=by decide
  refine⟨?_,?_⟩
  ·show ER (To::tA n)
   unfold ER;exact⟨afa,h1⟩
  ·exact Int.max_le.2 ⟨hd,h2⟩
theorem XB(nm:List UInt8)(n:Nat):WfF (AB nm n):=⟨by simp[AB],by simp[AB],⟨by simp[AB],by simp[AB]⟩,λ_=>⟨rfl,rfl⟩,(GA n).1⟩
theorem aj7:WfF K0:=⟨by simp[K0],by simp[K0,Gs],⟨by simp[K0],by simp[K0]⟩,λ_=>⟨rfl,rfl⟩,by simp[K0,ER]⟩
theorem SW:∀n:Nat,(uB (tA n)).length=6*n
 |0=>rfl
 |n+1=>by
  show (uS To++uB (tA n)).length=_
  have:(uS To).length=6:=rfl
  rw[List.length_append,SW n,this];omega
theorem aaG(nm:List UInt8)(n:Nat):(sV (AB nm n)).length=6*n+6:=by
 unfold sV
 simp only[AB,List.length_cons,List.length_append,SW,List.length_nil]
 simp[sU]
theorem K2{T:List Tk}{F a b:Nat}{x:Pg×Int×Int}(h:pX T F=some x)(hh:rK T 0 (sV (AB nF a)++(sV (AB qK b)++(sV K0++(ym OI++[(0,[],0)]))))) :
  x.2=(0,0)/\∃x1 x2 x3 r,x.1=⟨[r],[],[x1,x2,x3]⟩/\vH x1=vH (AB nF a)/\vH x2=vH (AB qK b)/\vH x3=vH K0/\Jv r=Jv OI/\x1.a=(T.getD 1 Rg).a/\x2.a=(T.getD (6*a+7) Rg).a:=by
 unfold pX at h
 obtain⟨⟨y1,y2⟩,h1,h2⟩:=Option.bind_eq_some_iff.1 h
 dsimp only at h2
 have hb:=λn=>(GA n).2
 obtain⟨f1,x1,a1,a2,a3⟩:=Gz (AB nF a) [] [] [] F ⟨0,0,0,0⟩ y1 y2 _ h1 rfl rfl (by simp) (XB _ _) (by have:=hb a;show dB (tA a)+1<=50;omega) hh
 have hh:=(cW.1 hh).2
 obtain⟨f2,x2,b1,b2,b3⟩:=Gz (AB qK b) [x1] [] [] f1 _ y1 y2 _ a1 rfl rfl (by simp) (XB _ _) (by have:=hb b;show dB (tA b)+1<=50;omega) hh
 have hh:=(cW.1 hh).2
 obtain⟨f3,x3,c1,c2,c3⟩:=Gz K0 ([x1]++[x2]) [] [] f2 _ y1 y2 _ b1 rfl rfl (by simp) aj7 (by decide) hh
 have hh:=(cW.1 hh).2
 have yx:qd ym [OI]=ym OI:=by simp[qd]
 rw[<-yx]at hh
 obtain⟨f4,rs,d1,d2⟩:=My [OI] [] [] ([x1]++[x2]++[x3]) f3 _ y1 y2 _ c1 rfl (by simp) (by simp[OI]) hh
 have hh:=(cW.1 hh).2.1
 cases f4 with
 |zero=>simp[jv]at d1
 |succ f4=>
  unfold jv at d1
  rw[if_neg (by
   rintro⟨_,k⟩
   apply k
   rw[Jb]
   rw[show bT T (mv (mv (mv (mv (⟨0,0,0,0⟩:RQ) (sV (AB nF a)).length) (sV (AB qK b)).length) (sV K0).length) (qd ym [OI]).length).at_=(0,[],0) from hh])]at d1
  cases d1
  change some (if (0:Int)=0 then _ else _)=_ at h2
  rw[if_pos rfl]at h2
  cases h2
  have hl:rs.length=1:=by have:=congrArg List.length d2;simpa using this
  match rs,hl,d2 with
  |[r],_,d2=>
   refine⟨rfl,x1,x2,x3,r,rfl,a2,b2,c2,by simpa using d2,a3,?_⟩
   rw[b3,aaG]
   have:(mv (⟨0,0,0,0⟩:RQ) (6*a+6)).at_=0+(6*a+6):=rfl
   rw[this,show 0+(6*a+6)+1=6*a+7 by omega]
theorem yq(P:List UInt8):∀(n:Nat)(r:List UInt8),(lC P n r).length=n*(P.length+1)+r.length
 |0,r=>by simp[lC]
 |n+1,r=>by
  simp only[lC,List.length_append,List.length_cons,yq P n r,Nat.add_mul];omega
theorem Wb(a b:Nat):(OH a b).length=10*a+10*b+58:=by
 have:Jw.length=9:=rfl
 simp only[OH,List.length_append,List.length_cons,yq,this]
 simp[De,XA,tlB];omega
theorem map_fst{rows:List (List AV)}{ts:List TP}{a:Nat}(h:rows.map Oi=ts.map (atP a)):(lS rows).map yh=ts.map (·.1):=by
 have:=congrArg (List.map (·.1)) h
 rw[List.map_map,List.map_map]at this
 unfold lS
 rw[List.map_map]
 exact this
theorem SX{rows:List (List AV)}{ts:List TP}{i k:Nat}{t:TS}(h:rows.map Oi=ts.map (atP 0))(hi:ts[i]?=some (t,k)):((lS rows).getD i Rg).a=(k:Int):=by
 have h1:=congrArg (λl=>l[i]?) h
 simp only[List.getElem?_map,hi,Option.map_some]at h1
 rw[List.getD_eq_getElem?_getD]
 unfold lS
 rw[List.getElem?_map]
 cases hr:rows[i]? with
 |none=>rw[hr]at h1;cases h1
 |some r=>
  rw[hr]at h1
  have:=(Prod.mk.inj (Option.some.inj h1)).2
  show (RA r).a=_
  rw[this]
  simp
theorem SY(a b:Nat)(h:a+b<=70):∃x1 x2 x3 r,mU (OH a b)=(⟨[r],[],[x1,x2,x3]⟩,0,0)/\vH x1=vH (AB nF a)/\vH x2=vH (AB qK b)/\vH x3=vH K0/\Jv r=Jv OI/\x1.a=5/\x2.a=((10*a+18:Nat):Int):=by
 obtain⟨rows,h1,h2⟩:=aaF a b 0 ((OH a b).length+1) (Nat.le_refl _)
 rw[Nat.zero_add]at h1
 have ht:Ct (OH a b)=(rows,none):=h1
 unfold mU
 rw[if_pos (by rw[Wb];omega),ht]
 simp only
 obtain⟨x,hx⟩:=qD (lS rows)
 rw[hx,Option.getD_some]
 have hm:=map_fst h2
 rw[V6]at hm
 obtain⟨e1,x1,x2,x3,r,e2,e3,e4,e5,e6,e7,e8⟩:=K2 hx (Gt (by rw[List.drop_zero];exact hm))
 refine⟨x1,x2,x3,r,?_,e3,e4,e5,e6,?_,?_⟩
 ·obtain⟨p,f⟩:=x
  simp only at e1 e2
  rw[e1,e2]
 ·rw[e7];exact SX h2 (V8 a b)
 ·rw[e8];exact SX h2 (V9 a b)
end Sit
namespace Sit
open Ax Go V7 kL lV wo iH
open A7 (uS uB uP ym sV qd KP rM Jv vH erG OF Xq ER WfP WfF dB dS)
open yB (uF Xm sR rJ Da jB ZX)
open K9 (iG)
open N7 U7
open S9 (Af)
theorem Wc{l:List Sm}(h:rM l=rM []):l=[]:=by
 cases l with
 |nil=>rfl
 |cons s l=>simp[rM]at h
theorem afb{x1 x2 x3:Fc}{r:Rc}{a b:Nat}(h1:vH x1=vH (AB nF a))(h2:vH x2=vH (AB qK b))(h3:vH x3=vH K0)(h4:Jv r=Jv OI) :
  ∃b1 b2 a0 a1 a2 a3 a4,r=⟨nR,[],a0⟩/\x1=⟨nF,[],false,[],0,b1,a1⟩/\x2=⟨qK,[],false,[],0,b2,a2⟩/\x3=⟨nG,[⟨[114],nR,0,a4⟩],false,[],0,[],a3⟩/\rM b1=rM (tA a)/\rM b2=rM (tA b):=by
 obtain⟨n1,fl,a0⟩:=r
 obtain⟨m1,ps1,vZ,on1,od1,bd1,a1⟩:=x1
 obtain⟨m2,ps2,Lu,NJ,NK,bd2,a2⟩:=x2
 obtain⟨m3,ps3,hs3,on3,od3,bd3,a3⟩:=x3
 simp only[vH,AB,Fc.mk.injEq,List.map_nil,List.map_eq_nil_iff,and_true]at h1 h2
 simp only[vH,K0,Fc.mk.injEq,and_true]at h3
 simp only[Jv,OI,Rc.mk.injEq,List.map_nil,List.map_eq_nil_iff,and_true]at h4
 obtain⟨q1,q2,q3,q4,q5,q6⟩:=h1
 obtain⟨p1,p2,p3,p4,p5,p6⟩:=h2
 obtain⟨o1,o2,o3,o4,o5,o6⟩:=h3
 obtain⟨r1,r2⟩:=h4
 have ob:=Wc o6
 match ps3,o2 with
 |[],o2=>cases o2
 |_::_::_,o2=>simp at o2
 |[⟨k1,k2,k3,a4⟩],o2=>
  simp only[List.map_cons,List.map_nil,OF,List.cons.injEq,PD.mk.injEq,and_true]at o2
  obtain⟨s1,s2,s3⟩:=o2
  subst q1 q2 q3 q4 q5 p1 p2 p3 p4 p5 o1 o3 o4 o5 ob r1 r2 s1 s2 s3
  exact⟨bd1,bd2,a0,a1,a2,a3,a4,rfl,rfl,rfl,rfl,q6,p6⟩
def tR:T3:=⟨3,0,0⟩
def sgF:Sg:=⟨nF,[],false,T0⟩
def sgM:Sg:=⟨qK,[],false,T0⟩
def sgG:Sg:=⟨nG,[⟨[114],tR⟩],false,T0⟩
def H0:Hd:=⟨[nR],[(nR,[])],[],[sgF,sgM,sgG]⟩
def K3:Sm:=.mk 9 [] [] 0 [.mk 7 0 nG [] 0 [.mk 8 0 [] nR 0 [] 0 tR 0] 0 T0 2] [] [] 0 0
theorem afc:wQ H0 false T0 [] To=.ok (K3,[]):=by kernel_rfl
def yu(n:Nat):List Sm:=List.replicate n K3
theorem GB:∀n:Nat,kF H0 false T0 [] (tA n)=.ok (yu n,[])
 |0=>by simp[tA,yu,kF]
 |n+1=>by
  show kF H0 false T0 [] (To::tA n)=_
  rw[KT,afc]
  simp only
  rw[GB n]
  rfl
theorem afd(nv a ns:Nat):(cS nv a ns K3).vs.length=1/\(cS nv a ns K3).is.length=2/\(cS nv a ns K3).ss.length=1:=by
 simp[K3,cS,k7,cE,tG,cK,l7.gb,gK,O0,T0,tR]
theorem SZ:∀(n nv a ns:Nat),(cB nv a ns (yu n)).vs.length=n/\(cB nv a ns (yu n)).is.length=2*n/\(cB nv a ns (yu n)).ss.length=n
 |0,nv,a,ns=>by
  show (cB nv a ns []).vs.length=_/\(cB nv a ns []).is.length=_/\(cB nv a ns []).ss.length=_
  rw[Gg];exact⟨rfl,rfl,rfl⟩
 |n+1,nv,a,ns=>by
  obtain⟨a1,a2,a3⟩:=afd nv a ns
  obtain⟨b1,b2,b3⟩:=SZ n (nv+(cS nv a ns K3).vs.length) (a+(cS nv a ns K3).is.length) (ns+(cS nv a ns K3).ss.length)
  show (cB nv a ns (K3::yu n)).vs.length=_/\(cB nv a ns (K3::yu n)).is.length=_/\(cB nv a ns (K3::yu n)).ss.length=_
  rw[yc]
  unfold EI
  simp only[l7.gb,List.length_append]
  omega
theorem S0:∀(n:Nat)(su:List Bool),(gC su (yu n)).2=none
 |0,_=>by show (gC _ []).2=none;rw[CJ]
 |n+1,su=>by
  have h1:(lX su K3).2=none:=by simp[K3,lX,lq,xU,mT]
  show (gC su (K3::yu n)).2=none
  rw[vu,h1,S0 n];rfl
theorem XC{l:List Sm}{n:Nat}(h:vP (yu n)=vP l)(su:List Bool):(gC su l).2=none:=by
 have:=(Prod.mk.inj (aax h su)).2
 rw[S0]at this
 cases hq:(gC su l).2 with
 |none=>rfl
 |some v=>rw[hq]at this;cases this
theorem afe{l:List Sm}{n:Nat}(h:rM l=rM (tA n)):∃y,kF H0 false T0 [] l=.ok (y,[])/\vP (yu n)=vP y:=by
 rcases Jg (V3 H0 false T0 [] h) with⟨y,y0,W',h1,h2,h3⟩|⟨x,y,h1,h2⟩
 ·rw[GB n]at h2
  cases h2
  exact⟨y,h1,h3.symm⟩
 ·rw[GB n]at h2
  cases h2
theorem K4{x1 x2 x3:Fc}{r:Rc}{a b:Nat}(tC:a+b<=70)(h1:vH x1=vH (AB nF a))(h2:vH x2=vH (AB qK b))(h3:vH x3=vH K0)(h4:Jv r=Jv OI) :
  (60<a/\uF ⟨[r],[],[x1,x2,x3]⟩=.fK [ZX,.agg [.int .i64 4,.int .i64 x1.a]])\/
  (a<=60/\60<a+b/\uF ⟨[r],[],[x1,x2,x3]⟩=.fK [ZX,.agg [.int .i64 4,.int .i64 x2.a]])\/
  (a+b<=60/\∃(cs:List Cd) (ss:List Sd),ss.length=a+b/\uF ⟨[r],[],[x1,x2,x3]⟩=.fK [.agg (sR H0 1 cs ss),.agg [.int .i64 0,.int .i64 0]]):=by
 obtain⟨b1,b2,a0,a1,a2,a3,a4,rfl,rfl,rfl,rfl,e1,e2⟩:=afb h1 h2 h3 h4
 obtain⟨y1,c1,z1⟩:=afe e1
 obtain⟨y2,c2,z2⟩:=afe e2
 have s1:=XC z1
 have s2:=XC z2
 have k1:∀nv p ns,cB nv p ns y1=cB nv p ns (yu a):=λnv p ns=>SN z1.symm _ _ _
 have k2:∀nv p ns,cB nv p ns y2=cB nv p ns (yu b):=λnv p ns=>SN z2.symm _ _ _
 obtain⟨P,hP⟩:∃P:Pg,P=⟨[⟨nR,[],a0⟩],[],[⟨nF,[],false,[],0,b1,a1⟩,⟨qK,[],false,[],0,b2,a2⟩,⟨nG,[⟨[114],nR,0,a4⟩],false,[],0,[],a3⟩]⟩:=⟨_,rfl⟩
 rw[<-hP]
 have hF:mK (kO P)=none:=by rw[hP];rfl
 have hH:aS P=H0:=by rw[hP];rfl
 have hG:jB P=false:=by rw[hP];rfl
 have hM:iG P=1:=by rw[hP];rfl
 have hR:q8 (aS P) (aS P).sigs P.funcs=.ok [⟨[],y1,a1⟩,⟨[],y2,a2⟩,⟨[⟨[114],tR⟩],[],a3⟩]:=by
  rw[hH,hP]
  show q8 H0 [sgF,sgM,sgG] _=_
  simp only[q8,sgF,sgM,sgG]
  rw[c1]
  simp only
  rw[c2]
  simp only[kF]
 have hS:Af P=none:=by
  unfold Af
  rw[hF]
  simp only
  rw[hR,hH]
  show mT (gC _ y1).2 (mT (gC _ y2).2 (mT (gC _ []).2 none))=none
  rw[s1,s2,CJ];rfl
 have hmk:uF P=Xm H0 1 (C2 [] [] 0 [sgF,sgM,sgG] [⟨[],y1,a1⟩,⟨[],y2,a2⟩,⟨[⟨[114],tR⟩],[],a3⟩]):=by
  unfold uF
  rw[hF]
  simp only
  rw[hR]
  simp only
  rw[hS,hG,hM,hH]
  rfl
 have q1:∀ns,(ct ns sgF ⟨[],y1,a1⟩).vars.length=a/\(ct ns sgF ⟨[],y1,a1⟩).is.length=2*a+1/\(iq ns ⟨[],y1,a1⟩).ss.length=a:=λns=>by
  obtain⟨u1,u2,u3⟩:=SZ a 0 0 ns
  refine⟨?_,?_,?_⟩
  ·show (([]:List T3)++(cB 0 0 ns y1).vs++[]).length=a
   rw[k1];simp[u1]
  ·show ((cB 0 0 ns y1).is++[_]).length=_
   rw[k1];simp[u2]
  ·show (cB 0 0 ns y1).ss.length=a
   rw[k1];exact u3
 have q2:∀ns,(ct ns sgM ⟨[],y2,a2⟩).vars.length=b/\(ct ns sgM ⟨[],y2,a2⟩).is.length=2*b+1/\(iq ns ⟨[],y2,a2⟩).ss.length=b:=λns=>by
  obtain⟨u1,u2,u3⟩:=SZ b 0 0 ns
  refine⟨?_,?_,?_⟩
  ·show (([]:List T3)++(cB 0 0 ns y2).vs++[]).length=b
   rw[k2];simp[u1]
  ·show ((cB 0 0 ns y2).is++[_]).length=_
   rw[k2];simp[u2]
  ·show (cB 0 0 ns y2).ss.length=b
   rw[k2];exact u3
 have q3:∀ns,(ct ns sgG ⟨[⟨[114],tR⟩],[],a3⟩).vars.length=1/\(ct ns sgG ⟨[⟨[114],tR⟩],[],a3⟩).is.length=1/\(iq ns ⟨[⟨[114],tR⟩],[],a3⟩).ss.length=0:=λns=>by
  simp[ct,iq,Gg,O0,sgG,Gf]
 clear hF hH hG hM hR hS hP c1 c2 z1 z2 s1 s2 k1 k2
 rw[hmk,rJ]
 obtain⟨f1,f2,f3⟩:=q1 ([]:List Sd).length
 by_cases ca:60<a
 ·left
  rw[if_pos (by right;right;rw[f3];simpa using ca)]
  exact⟨ca,rfl⟩
 ·right
  rw[if_neg (by rw[f1,f2,f3];simp only[List.length_nil];omega),rJ]
  simp only[List.nil_append,List.length_nil,Nat.zero_add]at f1 f2 f3 ⊢
  obtain⟨S1,hS1⟩:∃S1:List Sd,S1=(iq 0 ⟨[],y1,a1⟩).ss.map (λt=>(⟨0,t⟩:Sd)):=⟨_,rfl⟩
  rw[<-hS1]
  have Ou:S1.length=a:=by rw[hS1,List.length_map,f3]
  obtain⟨g1,g2,g3⟩:=q2 S1.length
  by_cases cb:60<a+b
  ·left
   rw[if_pos (by right;right;rw[g3,Ou];omega)]
   exact⟨by omega,cb,rfl⟩
  ·right
   rw[if_neg (by rw[g1,g2,g3,f2,Ou];omega),rJ]
   obtain⟨S2,hS2⟩:∃S2:List Sd,S2=S1++(iq S1.length ⟨[],y2,a2⟩).ss.map (λt=>(⟨([ct 0 sgF ⟨[],y1,a1⟩]:List Cd).length,t⟩:Sd)):=⟨_,rfl⟩
   rw[<-hS2]
   have BE:S2.length=a+b:=by rw[hS2,List.length_append,List.length_map,g3,Ou]
   obtain⟨j1,j2,j3⟩:=q3 S2.length
   rw[if_neg (by rw[j1,j2,j3,f2,g2,BE];omega),Da]
   refine⟨by omega,_,_,?_,rfl⟩
   rw[List.length_append,List.length_map,j3,BE];omega
end Sit
namespace Sit
open Ax Go cz V7 kL lV wo
open yB (uF Xm sR ZX Sp SO Di MB EU)
open N7 U7
def DO:List UInt8:=[102,40,110,101,119,32,82,41,59]
def sub:Nat->List UInt8->List UInt8
 |0,_=>[]
 |_+1,[]=>[]
 |n+1,c::l=>if (c::l).take 9=DO then Jw++sub n ((c::l).drop 9) else c::sub n l
theorem sub_le:∀(n:Nat)(l:List UInt8)(m:Nat),l.length<=n->l.length<=m->sub n l=sub m l
 |0,l,m,h,_=>by
  have:l=[]:=List.eq_nil_of_length_eq_zero (by omega)
  subst this
  cases m<;>rfl
 |n+1,[],m,_,_=>by cases m<;>rfl
 |n+1,c::l,0,_,h=>by simp at h
 |n+1,c::l,m+1,h1,h2=>by
  simp only[List.length_cons]at h1 h2
  unfold sub
  by_cases q:(c::l).take 9=DO
  ·rw[if_pos q,if_pos q,sub_le n _ m (by simp only[List.length_drop,List.length_cons];omega) (by simp only[List.length_drop,List.length_cons];omega)]
  ·rw[if_neg q,if_neg q,sub_le n _ m (by omega) (by omega)]
def sb(l:List UInt8):List UInt8:=sub l.length l
theorem S3:sb []=[]:=rfl
theorem S4{c:UInt8}{l:List UInt8}(h:(c::l).take 9=DO):sb (c::l)=Jw++sb ((c::l).drop 9):=by
 show sub (l.length+1) (c::l)=_
 unfold sub
 rw[if_pos h]
 unfold sb
 rw[sub_le l.length _ ((c::l).drop 9).length (by simp only[List.length_drop,List.length_cons];omega) (Nat.le_refl _)]
theorem Jk{c:UInt8}{l:List UInt8}(h:(c::l).take 9≠DO):sb (c::l)=c::sb l:=by
 show sub (l.length+1) (c::l)=_
 unfold sub
 rw[if_neg h];rfl
theorem ow{c:UInt8}{l:List UInt8}(h:c≠102):sb (c::l)=c::sb l:=Jk λq=>by
 rw[List.take_succ_cons]at q
 exact h (List.cons.inj q).1
theorem aff(r:List UInt8):sb (DO++32::r)=Jw++32::sb r:=by
 show sb (102::([40,110,101,119,32,82,41,59]++32::r))=_
 rw[S4 rfl]
 show Jw++sb (32::r)=_
 rw[ow (by decide)]
theorem K5:∀(n:Nat)(r:List UInt8),sb (lC DO n r)=lC Jw n (sb r)
 |0,_=>rfl
 |n+1,r=>by
  show sb (DO++32::lC DO n r)=Jw++32::lC Jw n (sb r)
  rw[aff,K5 n r]
theorem afg(r:List UInt8):sb (De++32::r)=De++32::sb r:=by
 show sb (102::117::110::99::32::102::40::41::32::123::32::r)=_
 rw[Jk (by simp[DO]),ow (by decide),ow (by decide),ow (by decide),ow (by decide),Jk (by simp[DO]),ow (by decide),ow (by decide),ow (by decide),ow (by decide),ow (by decide)]
 rfl
theorem afh(r:List UInt8):sb (XA++32::r)=XA++32::sb r:=by
 show sb (125::32::102::117::110::99::32::109::97::105::110::40::41::32::123::32::r)=_
 rw[ow (by decide),ow (by decide),Jk (by simp[DO]),ow (by decide),ow (by decide),ow (by decide),ow (by decide),ow (by decide),ow (by decide),ow (by decide),ow (by decide),ow (by decide),ow (by decide),ow (by decide),ow (by decide),ow (by decide)]
 rfl
def SF(f k:Nat):List UInt8:=De++32::lC DO f (XA++32::lC DO k [])
def S1(f k:Nat):List UInt8:=if k<=f then De++32::lC DO k [] else SF f (k-f)
theorem sW(P:List UInt8):∀(n:Nat)(r q:List UInt8),lC P n r++q=lC P n (r++q)
 |0,_,_=>rfl
 |n+1,r,q=>by
  show (P++32::lC P n r)++q=P++32::lC P n (r++q)
  rw[List.append_assoc,List.cons_append,sW P n r q]
theorem Dj(P:List UInt8):∀(n:Nat)(r:List UInt8),lC P (n+1) r=lC P n (P++32::r)
 |0,_=>rfl
 |n+1,r=>by
  show P++32::lC P (n+1) r=P++32::lC P n (P++32::r)
  rw[Dj P n r]
theorem afi{f k:Nat}(h:k<f):S1 f k++(DO++[32])=S1 f (k+1):=by
 unfold S1
 rw[if_pos (by omega),if_pos (by omega),List.append_assoc,List.cons_append,sW,Dj]
 rfl
theorem XD(f:Nat):S1 f f++(XA++[32])=SF f 0:=by
 unfold S1 SF
 rw[if_pos (Nat.le_refl _),List.append_assoc,List.cons_append,sW]
 rfl
theorem S5(f k:Nat):SF f k++(DO++[32])=SF f (k+1):=by
 unfold SF
 rw[List.append_assoc,List.cons_append,sW,List.append_assoc,List.cons_append,sW,Dj]
 rfl
theorem MF{f k:Nat}(h:f<k):S1 f k=SF f (k-f):=by
 unfold S1;rw[if_neg (by omega)]
theorem K6(f k:Nat):(SF f k).length=10*f+10*k+27:=by
 have:DO.length=9:=rfl
 simp only[SF,List.length_append,List.length_cons,yq,this]
 simp[De,XA];omega
theorem aaJ(f k:Nat):(S1 f k).length<=10*k+27/\(S1 f k).length ≥ 11:=by
 have:DO.length=9:=rfl
 unfold S1
 split
 ·simp only[List.length_append,List.length_cons,yq,this]
  simp[De];omega
 ·rw[K6];omega
theorem aj8(f:Nat):(S1 f f).length=10*f+11:=by
 have:DO.length=9:=rfl
 unfold S1
 rw[if_pos (Nat.le_refl _)]
 simp only[List.length_append,List.length_cons,yq,this]
 simp[De];omega
theorem afj(f k:Nat):sb (SF f k)++(tlB++32::[125])=OH f k:=by
 unfold SF OH
 rw[afg,K5,afh,K5,S3,List.append_assoc,List.cons_append,sW,List.append_assoc,List.cons_append,sW]
 rfl
def IU(f k:Nat):Nat:=if k<=f then 5 else 10*f+18
theorem Ok(n f:Int):(bg S).call 0 0 4 [.int .i64 n,.int .i64 f] []=some (.bool true,[]):=by
 have kn:=λwl li st=>Qb (sf:=s8) rfl rfl rfl Sp wl li st
 refine b8 (sf:=s4) rfl rfl (by simp[AV.ah,AV.an]) rfl rfl ?_
 by_cases c0:n<0
 ·simp[s4,c0]
 by_cases c1:70<n
 ·simp[s4,c0,c1]
 by_cases c2:f<0
 ·simp[s4,c0,c1,c2]
 by_cases c3:n<f
 ·simp[s4,c0,c1,c2,c3]
 obtain⟨n,rfl⟩:∃k:Nat,n=k:=⟨n.toNat,by omega⟩
 obtain⟨f,rfl⟩:∃k:Nat,f=k:=⟨f.toNat,by omega⟩
 have hn:n<=70:=by omega
 have hf:f<=n:=by omega
 have c3':¬(n<f):=by omega
 simp[s4,c0,c1,c2,c3,c3']
 refine bM WU.eq_1 (λk:Nat=>⟨[(0,.val (.int .i64 n)),(1,.val (.int .i64 f)),(5,.val (.str (S1 f k))),(6,.val (.int .i64 (IU f k))),(7,.val (.int .i64 k))],[[],[],[],[]],[]⟩)
  (λk=>k<=n) (λk=>n-k) 0 (by simp[S1,lC,De,IU]) (by simp) ?_
 intro k hk ih
 by_cases bn:k<n
 ·have Ol:(k:Int)<(n:Int):=by omega
  have tE:IntKind.i64.wrap ((k:Int)+1)=((k+1:Nat):Int):=by rw[aY]<;>omega
  have eU:=ih (k+1) (by omega) (by omega)
  obtain⟨l1,l2⟩:=aaJ f k
  have hb:∀n:Nat,2000<=n->(S1 f k).length<=n:=λn h=>by omega
  by_cases hkf:k=f
  ·subst hkf
   have hS:=aj8 k
   have Bv:∀m:Nat,1000<=m->10*k<=m:=λm h=>by omega
   have e1:S1 k k++[125,32,102,117,110,99,32,109,97,105,110,40,41,32,123,32]=SF k 0:=XD k
   have e2:SF k 0++[102,40,110,101,119,32,82,41,59,32]=SF k 1:=S5 k 0
   have e3:S1 k (k+1)=SF k 1:=by rw[MF (by omega),Nat.add_sub_cancel_left]
   have e4:IU k (k+1)=10*k+18:=by unfold IU;rw[if_neg (by omega)]
   rw[e3,e4,<-e2,<-e1]at eU
   have Q0:IntKind.i64.wrap (10*(k:Int)+11+16-9)=((10*k+18:Nat):Int):=by rw[aY]<;>omega
   simp only[List.append_assoc,List.cons_append,List.nil_append]at eU
   generalize S1 k k=X at *
   simp[Ol,tE,hS,hb,Bv,Q0,af]
   exact eU
  ·have aj9:¬(k:Int)=(f:Int):=by omega
   have e4:IU f (k+1)=IU f k:=by
    unfold IU
    by_cases c:k<=f
    ·rw[if_pos c,if_pos (by omega)]
    ·rw[if_neg c,if_neg (by omega)]
   have e3:S1 f (k+1)=S1 f k++[102,40,110,101,119,32,82,41,59,32]:=by
    by_cases c:k<f
    ·exact(afi c).symm
    ·rw[MF (by omega),MF (by omega),show k+1-f=(k-f)+1 by omega]
     exact(S5 f (k-f)).symm
   rw[e3,e4]at eU
   generalize S1 f k=X at *
   simp[Ol,tE,aj9,hb,af]
   exact eU
 ·have Wn:k=n:=by omega
  subst Wn
  obtain⟨Y,hY⟩:∃Y,Y=SF f (k-f):=⟨_,rfl⟩
  have hYl:Y.length<=800:=by rw[hY,K6];omega
  obtain⟨A,hA⟩:∃A:Nat,A=10*f+18:=⟨_,rfl⟩
  by_cases c:k<=f
  case' pos=>
   have cI:(k:Int)<=(f:Int):=by omega
   have hfk:f=k:=by omega
   have e1:S1 f k++[125,32,102,117,110,99,32,109,97,105,110,40,41,32,123,32]=Y:=by rw[hY,hfk,Nat.sub_self];exact XD k
   have hS:(S1 f k).length+16=Y.length:=by rw[<-e1];simp
   have hS2:(Y.length:Int)=10*(f:Int)+27:=by rw[hY,K6];omega
   have Q0:IntKind.i64.wrap (10*(f:Int)+27-9)=(A:Int):=by rw[aY]<;>omega
   have hb:∀n:Nat,2000<=n->(S1 f k).length<=n:=λn h=>by omega
   generalize S1 f k=X at *
   simp[cI,e1,hb,hS2,Q0,af]
  case' neg=>
   have cI:¬(k:Int)<=(f:Int):=by omega
   have e1:S1 f k=Y:=by rw[hY];exact MF (by omega)
   have e4:IU f k=A:=by unfold IU;rw[if_neg (by omega),hA]
   rw[e1,e4]
   simp[cI,af]
  all_goals
   refine bM WW.eq_1 (λx:List UInt8×Nat=>⟨[(0,.val (.int .i64 k)),(1,.val (.int .i64 f)),(5,.val (.str Y)),(6,.val (.int .i64 A)),(8,.val (.str x.1)),(9,.val (.int .i64 x.2))],[[],[],[],[]],[]⟩)
    (λx=>x.2<=Y.length/\x.1.length<=x.2/\x.1++sb (Y.drop x.2)=sb Y) (λx=>Y.length-x.2) ([],0) (by simp) ⟨by simp,by simp,by simp⟩ ?_
   rintro⟨t,i⟩ ⟨hi,hti,hp⟩ ih
   simp only at hi hti hp ih
   by_cases bn:i<Y.length
   ·have Ol:(i:Int)<(Y.length:Int):=by omega
    have ht:∀n:Nat,2000<=n->t.length<=n:=λn h=>by omega
    have hw9:IntKind.i64.wrap ((i:Int)+9)=(i:Int)+9:=by rw[aY]<;>omega
    have hw8:IntKind.i64.wrap ((i:Int)+8)=(i:Int)+8:=by rw[aY]<;>omega
    have akb:IntKind.i64.wrap ((i:Int)+8+1)=((i+9:Nat):Int):=by rw[aY]<;>omega
    have hw1:IntKind.i64.wrap ((i:Int)+1)=((i+1:Nat):Int):=by rw[aY]<;>omega
    have n9:((i:Int)+9).toNat=i+9:=by omega
    have n1:((i:Int)+1).toNat=i+1:=by omega
    have g9:(i:Int)<=(i:Int)+9:=by omega
    have g1:(i:Int)<=(i:Int)+1:=by omega
    have hd:=List.drop_eq_getElem_cons bn
    have Av:∀m,(Y.take (i+m)).drop i=(Y.drop i).take m:=λm=>by rw[List.drop_take,Nat.add_sub_cancel_left]
    by_cases m:(Y.drop i).take 9=DO
    ·have h9:i+9<=Y.length:=by
      have:=congrArg List.length m
      simp[DO]at this
      omega
     have h9I:(i:Int)+9<=(Y.length:Int):=by omega
     have hs:(Y.take (i+9)).drop i=[102,40,110,101,119,32,82,41,59]:=by rw[Av,m];rfl
     have Uk:(t++Jw)++sb (Y.drop (i+9))=sb Y:=by
      rw[<-hp,hd,S4 (by rw[<-hd];exact m),<-hd,List.drop_drop,List.append_assoc]
     have eU:=ih (t++Jw,i+9) ⟨h9,by simp[Jw];omega,Uk⟩ (by simp only;omega)
     simp only[Jw]at eU
     simp[Ol,hw9,hw8,akb,h9I,hs,ht,n9,g9,af]
     exact eU
    ·have hs:¬(Y.take (i+9)).drop i=[102,40,110,101,119,32,82,41,59]:=by rw[Av];exact m
     have vZ:(Y.take (i+1)).drop i=[Y[i]]:=by rw[Av,hd];rfl
     have Uk:(t++[Y[i]])++sb (Y.drop (i+1))=sb Y:=by
      rw[<-hp,hd,Jk (by rw[<-hd];exact m),List.append_assoc];rfl
     have eU:=ih (t++[Y[i]],i+1) ⟨by simp only;omega,by simp;omega,Uk⟩ (by simp only;omega)
     simp only at eU
     generalize Y[i]=y at *
     have h1I:(i:Int)+1<=(Y.length:Int):=by omega
     by_cases h9:(i:Int)+9<=(Y.length:Int)
     ·simp[Ol,hw9,hw1,h9,hs,vZ,h1I,ht,n9,n1,g9,g1,af]
      exact eU
     ·simp[Ol,hw9,hw1,h9,vZ,h1I,ht,n1,g1,af]
      exact eU
   ·have Nb:i=Y.length:=by omega
    rw[Nb,List.drop_length,S3,List.append_nil]at hp
    obtain⟨x1,x2,x3,r,hpg,z1,z2,z3,z4,z5,z6⟩:=SY f (k-f) (by omega)
    have Ta:=Di (OH f (k-f))
    have pk:=λwl li st=>Vx wl li (OH f (k-f)) st
    rw[hpg]at Ta pk
    have mk:=λwl li st=>yB.FZ wl li ⟨[r],[],[x1,x2,x3]⟩ st (aej Ta.inn) (aek Ta.inn) (MB Ta) (EU Ta)
    have XZ:=K4 (a:=f) (b:=k-f) (by omega) z1 z2 z3 z4
    rw[z5,z6,<-hA]at XZ
    have htx:t++[125,32,102,117,110,99,32,103,40,114,58,32,82,41,32,123,32,125,32,114,101,99,111,114,100,32,82,32,123,32,125]=OH f (k-f):=by
     rw[hp,hY];exact afj f (k-f)
    have htl:∀n:Nat,2000<=n->t.length<=n:=λn h=>by omega
    obtain⟨P,hP⟩:∃P:Pg,P=⟨[r],[],[x1,x2,x3]⟩:=⟨_,rfl⟩
    rw[<-hP]at pk mk XZ
    clear hP Ta hpg z1 z2 z3 z4 z5 z6
    have r1:aJ (aB 3 (P.bG.map Rc.row))=true:=bp
    have r2:(aB 3 (P.bG.map Rc.row)).view=aB 3 (P.bG.map Rc.row):=bq
    have f1:aJ (aB 7 (P.funcs.map Fc.row))=true:=bp
    have f2:(aB 7 (P.funcs.map Fc.row)).view=aB 7 (P.funcs.map Fc.row):=bq
    have g1:aJ (aB 4 (P.globals.map PD.cells))=true:=bp
    have g2:(aB 4 (P.globals.map PD.cells)).view=aB 4 (P.globals.map PD.cells):=bq
    unfold Pg.row at pk mk
    simp only at pk
    generalize aB 3 (P.bG.map Rc.row)=PR at *
    generalize aB 7 (P.funcs.map Fc.row)=PF at *
    generalize aB 4 (P.globals.map PD.cells)=PG at *
    generalize OH f (k-f)=TX at *
    rcases XZ with⟨q,e⟩|⟨q,q2,e⟩|⟨q,cs,ss,hl,e⟩
    ·rw[e]at mk
     have c1:(60:Int)<(k:Int):=by omega
     have c2:¬(f:Int)<=60:=by omega
     have c1':60<k:=by omega
     have c2':¬f<=60:=by omega
     simp[bn,htx,htl,pk,mk,r1,r2,f1,f2,g1,g2,c1,c2,c1',c2',kn,af,AV.view,AV.cL,bU]
     done
    ·rw[e]at mk
     have c1:(60:Int)<(k:Int):=by omega
     have c2:(f:Int)<=60:=by omega
     have c1':60<k:=by omega
     simp[bn,htx,htl,pk,mk,r1,r2,f1,f2,g1,g2,c1,c2,c1',q,kn,af,AV.view,AV.cL,bU]
     done
    ·rw[e]at mk
     have c1:¬(60:Int)<(k:Int):=by omega
     have c1':¬60<k:=by omega
     unfold sR at mk
     have x1:aJ (aB 2 (H0.cF.map iF))=true:=bp
     have x2:(aB 2 (H0.cF.map iF)).view=aB 2 (H0.cF.map iF):=bq
     have y1:aJ (aB 3 (H0.globals.map (λv=>v.ty.cells)))=true:=bp
     have y2:(aB 3 (H0.globals.map (λv=>v.ty.cells))).view=aB 3 (H0.globals.map (λv=>v.ty.cells)):=bq
     have z1:aJ (aB 4 (ss.map Sd.row))=true:=bp
     have z2:(aB 4 (ss.map Sd.row)).view=aB 4 (ss.map Sd.row):=bq
     have z3:aZ (aB 4 (ss.map Sd.row))=ss.map Sd.row:=aT
     have i1:aJ (aB 7 (cs.map Cd.row))=true:=bp
     have i2:(aB 7 (cs.map Cd.row)).view=aB 7 (cs.map Cd.row):=bq
     have Tc:(ss.map Sd.row).length=k:=by rw[List.length_map,hl];omega
     generalize aB 2 (H0.cF.map iF)=SV at *
     generalize aB 3 (H0.globals.map (λv=>v.ty.cells))=GV at *
     generalize aB 4 (ss.map Sd.row)=TV at *
     generalize aB 7 (cs.map Cd.row)=IV at *
     generalize ss.map Sd.row=SR at *
     simp[bn,htx,htl,pk,mk,r1,r2,f1,f2,g1,g2,x1,x2,y1,y2,z1,z2,z3,i1,i2,Tc,c1,c1',kn,af,AV.view,AV.cL,bU]
     done
end Sit
