/- Part of a proof. -/
import Derived.Test.YtegibojgmandmaaGreatS
import Derived.Test.YtegibojgmandmaaGreatT
import Derived.Test.YtegibojgmandmaaGreatK
import Derived.Test.YtegibojgmandmaaGreatP

set_option maxRecDepth 100000
set_option maxHeartbeats 8000000
namespace S9
open Ax Go Code9z V7 Par Chk K9 N7 U7
theorem progS_small (s:List UInt8):∀f∈(progS s).1.funcs,Sm.szs f.body<=6001:=by
 unfold progS
 split
 ·rename_i hl
  generalize htp:U2.tokP s=z
  obtain⟨rows,e⟩:=z
  cases e with
  |some e=>intro f hf;cases hf
  |none=>
   obtain⟨hall,hlen⟩:=tok_all htp
   obtain⟨x,hx⟩:=some_progOf (tksOf rows)
   simp only
   rw[hx,Option.getD_some]
   have hTl:(tksOf rows).length=rows.length:=by simp[tksOf]
   intro f hf
   have:=size_prog hx f hf
   omega
 ·intro f hf;cases hf
theorem hd_par (p:Pg)(hp:Pg.In 6000 p):∀s∈(hdOf p).sigs,s.ps.length<=7:=by
 intro s hs
 obtain⟨f,hf,rfl⟩:=List.mem_map.1 hs
 have:=(hp.f.2 f hf).len
 simpa [sgOf,fdsOf] using this
structure Fine (p:Pg):Prop where
 inn:Pg.In 6000 p
 small:∀f∈p.funcs,Sm.szs f.body<=12010
theorem fine_progS (s:List UInt8):Fine (progS s).1:=⟨(progS_in s).1,fun f hf=>by have:=progS_small s f hf;omega⟩
theorem fine_sz {p:Pg}(h:Fine p):∀f∈p.funcs,f.params.length+Sm.szs f.body<1000000000:=fun f hf=>by
 have:=h.small f hf
 have:=(h.inn.f.2 f hf).len
 omega
theorem fine_code {p:Pg}(h:Fine p):∀bs,ckF (hdOf p) (hdOf p).sigs p.funcs=.ok bs->∀b∈bs,Sm.szs b.code<1000000000/\b.vars.length<1000000000:=fun bs hR b hb=>by
 have hcs:=ckF_small hR h.small b hb
 have hvs:=ckF_vars (n:=12010) (hd_ok p) hR (fun s hs=>((hd_ok p).sigs s hs).2) (fun s hs=>by have:=hd_par p h.inn s hs;omega) h.small b hb
 omega
theorem sure_fine {p:Pg}(h:Fine p)(wl lim:Nat)(st:Store):(orcL S).call wl lim 7 [.agg p.row] st=some (fltV (sureO p),st):=sure_ok wl lim p st (gd_ok h.inn) (gd_sm h.inn) (fine_sz h) (fine_code h)
end S9
