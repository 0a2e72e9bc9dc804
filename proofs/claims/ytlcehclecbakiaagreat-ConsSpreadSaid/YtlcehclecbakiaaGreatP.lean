/- Part of a proof. -/
import Derived.Test.YtlcehclecbakiaaGreatCode2
import Derived.Test.YtlcehclecbakiaaGreatV

namespace U12
open Ax Go Code19 IrV
set_option maxRecDepth 100000
set_option maxHeartbeats 4000000

def xAV (x : XD) : AV := .agg [x.recs, x.globals, x.codes, x.sites, .int .i64 x.main]

theorem _root_.IrV.XD.ok.sl {x : XD} (h : x.ok) : (isSl x.recs = true ∧ isSl x.globals = true ∧ isSl x.codes = true ∧ isSl x.sites = true) ∧
    x.recs.view = x.recs ∧ x.globals.view = x.globals ∧ x.codes.view = x.codes ∧ x.sites.view = x.sites :=
  ⟨⟨isSl_R h.recs, isSl_T h.globals, isSl_C h.codes, isSl_S h.sites⟩, isRs_vw h.recs, isTs_vw h.globals, isCs_vw h.codes, isSs_vw h.sites⟩
theorem _root_.IrV.XD.ok.pure {x : XD} (h : x.ok) : (xAV x).isPure = true := by
  have h1 := pure_sl (isSl_R h.recs)
  have h2 := pure_sl (isSl_T h.globals)
  have h3 := pure_sl (isSl_C h.codes)
  have h4 := pure_sl (isSl_S h.sites)
  simp [xAV, *]
def idAV (i : ID) : AV := .agg [.int .i64 i.op, .int .i64 i.a, .int .i64 i.b, .int .i64 i.c, .int .i64 i.n, i.args]

def refT (t : T3) : Bool := decide (t.b = 3) || decide (0 < t.d)

theorem ref_ok (wl lim : Nat) (a b c : Int) (st : Store) :
    (orcL S).call wl lim 86 [.agg [.int .i64 a, .int .i64 b, .int .i64 c]] st = some (.bool (refT ⟨a, b, c⟩), st) := by
  refine call_pure (sf := s86) rfl rfl (by simp) rfl (by simp) ?_
  unfold refT
  by_cases h : a = 3
  · simp [s86, h]
  · simp [s86, h]

theorem rref_ok (wl lim : Nat) (a b c : Int) (st : Store) :
    (orcL S).call wl lim 17 [.agg [.int .i64 a, .int .i64 b, .int .i64 c]] st = some (.bool (refT ⟨a, b, c⟩), st) := by
  refine call_pure (sf := s17) rfl rfl (by simp) rfl (by simp) ?_
  unfold refT
  by_cases h : a = 3
  · simp [s17, h]
  · simp [s17, h]

end U12
