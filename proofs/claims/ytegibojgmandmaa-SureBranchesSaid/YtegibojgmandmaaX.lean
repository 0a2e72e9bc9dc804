/- Part of a proof. -/
import Derived.Test.YtegibojgmandmaaS
import Derived.Test.YtegibojgmandmaaK
import Derived.Test.YtegibojgmandmaaP
import Derived.Test.YtegibojgmandmaaN
import Derived.Test.YtegibojgmandmaaY

set_option maxRecDepth 100000
set_option maxHeartbeats 8000000
namespace S9
open Ax Go Code9 V7 Par Chk K9 N7 U7
theorem progS_small (s:List UInt8):∀f∈(progS s).1.funcs,Sm.szs f.body<=6001:=by
 unfold progS
 split
 ·rename_i hl
  generalize htp:U2.tokP s=z
  obtain⟨rows,e⟩:=z
  cases e with
  |some e=>intro f hf;cases hf
  |none=>
   obtain⟨hall,hlen⟩:=tok_all htp
   obtain⟨x,hx⟩:=some_progOf (tksOf rows)
   simp only
   rw[hx,Option.getD_some]
   have hTl:(tksOf rows).length=rows.length:=by simp[tksOf]
   intro f hf
   have:=size_prog hx f hf
   omega
 ·intro f hf;cases hf
theorem hd_par (p:Pg)(hp:Pg.In 6000 p):∀s∈(hdOf p).sigs,s.ps.length<=7:=by
 intro s hs
 obtain⟨f,hf,rfl⟩:=List.mem_map.1 hs
 have:=(hp.f.2 f hf).len
 simpa [sgOf,fdsOf] using this
structure Fine (p:Pg):Prop where
 inn:Pg.In 6000 p
 small:∀f∈p.funcs,Sm.szs f.body<=12010
theorem fine_progS (s:List UInt8):Fine (progS s).1:=⟨(progS_in s).1,fun f hf=>by have:=progS_small s f hf;omega⟩
theorem fine_sz {p:Pg}(h:Fine p):∀f∈p.funcs,f.params.length+Sm.szs f.body<1000000000:=fun f hf=>by
 have:=h.small f hf
 have:=(h.inn.f.2 f hf).len
 omega
theorem fine_code {p:Pg}(h:Fine p):∀bs,ckF (hdOf p) (hdOf p).sigs p.funcs=.ok bs->∀b∈bs,Sm.szs b.code<1000000000/\b.vars.length<1000000000:=fun bs hR b hb=>by
 have hcs:=ckF_small hR h.small b hb
 have hvs:=ckF_vars (n:=12010) (hd_ok p) hR (fun s hs=>((hd_ok p).sigs s hs).2) (fun s hs=>by have:=hd_par p h.inn s hs;omega) h.small b hb
 omega
theorem sure_fine {p:Pg}(h:Fine p)(wl lim:Nat)(st:Store):(orcL S).call wl lim 6 [.agg p.row] st=some (fltV (sureO p),st):=sure_ok wl lim p st (gd_ok h.inn) (gd_sm h.inn) (fine_sz h) (fine_code h)
end S9
namespace Lx
open Ax Go V7 Par Unp U2 N7
def rowT (r:List AV):TS:=strip (tkOf r)
def Lx (l:List UInt8)(ts:List TS):Prop:=∀a n:Nat,l.length+1<=n->∃rows,tokG n (a+blankL l) (l.drop (blankL l))=(rows,none)/\rows.map rowT=ts
theorem lx_nil:Lx [] [(0,[],0)]:=by
 intro a n hn
 cases n with
 |zero=>simp at hn
 |succ n=>exact⟨_,rfl,rfl⟩
theorem lx_blank {c:UInt8}{l:List UInt8}{ts:List TS}(hc:white c=true)(h:Lx l ts):Lx (c::l) ts:=by
 intro a n hn
 have e:blankL (c::l)=blankL l+1:=by
  show blankN (l.length+1) (c::l)=_
  unfold blankN
  rw[if_pos hc];rfl
 simp only[List.length_cons]at hn
 rw[e,show a+(blankL l+1)=(a+1)+blankL l by omega,List.drop_succ_cons]
 exact h (a+1) n (by omega)
theorem lx_tok {c:UInt8}{l:List UInt8}{k:Nat}{t:TS}{ts:List TS}(hw:white c=false)(hc:isCom (c::l)=false)(h1:∀a,∃row,oneT a (c::l)=(row,k+1)/\rowT row=t)(h2:Lx ((c::l).drop (k+1)) ts):Lx (c::l) (t::ts):=by
 intro a n hn
 have e:blankL (c::l)=0:=by
  show blankN (l.length+1) (c::l)=_
  unfold blankN
  rw[if_neg (by rw[hw];decide),if_neg (by rw[hc];decide)]
 rw[e,List.drop_zero,Nat.add_zero]
 cases n with
 |zero=>simp at hn
 |succ n=>
  obtain⟨row,r1,r2⟩:=h1 a
  simp only[List.length_cons]at hn
  obtain⟨rows,b1,b2⟩:=h2 (a+(k+1)) n (by simp only[List.length_drop,List.length_cons];omega)
  unfold tokG
  rw[r1]
  simp only
  rw[b1]
  exact⟨_,rfl,by simp[r2,b2]⟩
theorem run_32 (d:Bool)(r:List UInt8):∀P:List UInt8,runL d (P++32::r)=runL d (P++[32])/\runL d (P++[32])<=P.length
 |[]=>by
  have:pR d 32=false:=by cases d<;>decide
  simp[runL,this]
 |c::P=>by
  obtain⟨h1,h2⟩:=run_32 d r P
  simp only[List.cons_append,runL,h1,List.length_cons]
  split
  ·exact⟨trivial,by omega⟩
  ·exact⟨trivial,by omega⟩
theorem next_32 (P r:List UInt8)(n:Nat)(h:n<=P.length):nextLet (P++32::r) n=nextLet (P++[32]) n:=by
 unfold nextLet
 rw[List.drop_append_of_le_length h,List.drop_append_of_le_length h]
 cases P.drop n with
 |nil=>rfl
 |cons a l=>rfl
theorem one_32 (a:Nat)(c:UInt8)(P r:List UInt8):∃row,oneT a (c::P++32::r)=(row,(oneT 0 (c::P++[32])).2)/\rowT row=rowT (oneT 0 (c::P++[32])).1:=by
 have hr:=fun d=>run_32 d r (c::P)
 have ht:∀n,n<=(c::P).length->(c::P++32::r).take n=(c::P++[32]).take n:=fun n hn=>by
  rw[List.take_append_of_le_length hn,List.take_append_of_le_length hn]
 have hs:signT (c::P++32::r)=signT (c::P++[32]):=by
  cases P with
  |nil=>rfl
  |cons d P=>rfl
 unfold oneT
 simp only[List.cons_append]at hr ht hs ⊢
 rw[(hr false).1,(hr true).1,hs,ht _ (hr false).2]
 split
 ·unfold wordTok
  split
  ·exact⟨_,rfl,rfl⟩
  ·split
   ·exact⟨_,rfl,rfl⟩
   ·exact⟨_,rfl,rfl⟩
 ·split
  ·unfold numTok
   rw[ht _ (hr true).2]
   have hn:=next_32 (c::P) r _ (hr true).2
   simp only[List.cons_append]at hn
   rw[hn]
   split
   ·exact⟨_,rfl,rfl⟩
   ·split
    ·exact⟨_,rfl,rfl⟩
    ·exact⟨_,rfl,rfl⟩
  ·unfold signTok
   split
   ·exact⟨_,rfl,rfl⟩
   ·exact⟨_,rfl,rfl⟩
def lexF:Nat->List UInt8->Option (List TS)
 |0,_=>none
 |_+1,[]=>some []
 |n+1,c::P=>if white c then lexF n P else if isCom (c::P++[32]) then none else
   match oneT 0 (c::P++[32]) with
   |(_,0)=>none
   |(row,k+1)=>if Nat.ble (k+1) (P.length+1) then (match lexF n ((c::P).drop (k+1)) with|some ts=>some (rowT row::ts)|none=>none) else none
theorem lexF_ok:∀(n:Nat)(P:List UInt8)(ts:List TS),lexF n P=some ts->∀rest us,Lx (32::rest) us->Lx (P++32::rest) (ts++us)
 |0,_,_,h,_,_,_=>by cases h
 |n+1,[],ts,h,rest,us,hx=>by
  unfold lexF at h
  cases h;exact hx
 |n+1,c::P,ts,h,rest,us,hx=>by
  unfold lexF at h
  split at h
  ·rename_i hw
   exact lx_blank hw (lexF_ok n P ts h rest us hx)
  ·rename_i hw
   split at h
   ·cases h
   ·rename_i hc
    obtain⟨o1,k0,hk0⟩:∃o1 k0,oneT 0 (c::P++[32])=(o1,k0):=⟨_,_,rfl⟩
    rw[hk0]at h
    cases k0 with
    |zero=>cases h
    |succ k=>
     simp only at h
     split at h
     ·rename_i hle
      have hle':=Nat.le_of_ble_eq_true hle
      split at h
      ·rename_i ts2 hl
       cases h
       have hc2:isCom (c::P++32::rest)=false:=by
        have:isCom (c::P++32::rest)=isCom (c::P++[32]):=by
         cases P with
         |nil=>rfl
         |cons d P=>rfl
        rw[this];simpa using hc
       refine lx_tok (k:=k) (by simpa using hw) hc2 (fun a=>?_) ?_
       ·have:=one_32 a c P rest
        rw[hk0]at this
        exact this
       ·have hd:(c::(P++32::rest)).drop (k+1)=(c::P).drop (k+1)++32::rest:=by
         rw[<-List.cons_append,List.drop_append_of_le_length (by simpa using hle')]
        have:=lexF_ok n _ ts2 hl rest us hx
        rw[<-hd]at this
        exact this
      ·cases h
     ·cases h
theorem has_map:∀{ts:List TS}{T:List Tk}{i:Nat},(T.drop i).map strip=ts->Has T i ts
 |[],_,_,_=>trivial
 |x::ts,T,i,h=>by
  have hi:i<T.length:=by
   rcases Nat.lt_or_ge i T.length with h1|h1
   ·exact h1
   ·rw[List.drop_eq_nil_of_le h1]at h;cases h
  rw[List.drop_eq_getElem_cons hi,List.map_cons]at h
  obtain⟨h1,h2⟩:=List.cons.inj h
  refine⟨?_,has_map h2⟩
  rw[List.getD_eq_getElem?_getD,List.getElem?_eq_getElem hi]
  exact h1
theorem text_prog {s:List UInt8}{p:Pg}(hl:s.length<=6000)(hx:Lx s (uP p++[(0,[],0)]))(hw:WfP p)(hd:∀c∈p.funcs,dB c.body+1<=50):∃p',progS s=(p',0,0)/\erG p'=erG p:=by
 obtain⟨rows,h1,h2⟩:=hx 0 (s.length+1) (Nat.le_refl _)
 rw[Nat.zero_add]at h1
 have ht:tokP s=(rows,none):=h1
 unfold progS
 rw[if_pos hl,ht]
 simp only
 obtain⟨x,hx⟩:=some_progOf (tksOf rows)
 rw[hx,Option.getD_some]
 have hm:(tksOf rows).map strip=uP p++[(0,[],0)]:=by
  rw[<-h2,tksOf,List.map_map]
  exact List.map_congr_left fun r _=>rfl
 obtain⟨a1,a2⟩:=prog_has hx hw (.inr hd) (has_map (by rw[List.drop_zero];exact hm))
 exact⟨x.1,by rw[<-a1],a2⟩
end Lx
