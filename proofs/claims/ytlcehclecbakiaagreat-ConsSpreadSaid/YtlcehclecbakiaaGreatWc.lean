/- Part of a proof. -/
import Derived.Test.YtlcehclecbakiaaGreatWb

namespace U12
open Ax Go Code19 IrV
set_option maxRecDepth 100000
set_option maxHeartbeats 8000000
section
variable {x : XD} (hx : x.ok) (hm : Sm x)
include hx hm

theorem res_ok (wl lim : Nat) (f : Int) (st : Store) : (orcL S).call wl lim 21 [xAV x, .int .i64 f] st = some (.int .i64 (resT x f), st) := by
  have e := irR hx hm
  have ev := fun wl lim st => variables_ok wl lim st hx hm
  have hs := hx.sl
  have hlc := rowsL_C hx.codes
  have b1 := hm.all
  have b2 := hm.codes
  unfold resT
  simp only [xAV] at e ev
  refine call_pure (sf := s21) rfl rfl (by simp [hx.pure]) rfl (by simp) ?_
  cases hr : rightT x with
  | false => simp [s21, xAV, hs, e, hr]
  | true =>
    by_cases f0 : f < 0
    · have f0' : ¬ 0 ≤ f := by omega
      simp [s21, xAV, hs, e, hr, f0, f0']
    by_cases f1 : ((dCs x.codes).length : Int) ≤ f
    · have f1' : ¬ f < ((dCs x.codes).length : Int) := by omega
      simp [s21, xAV, hs, hlc, e, hr, f0, f1, f1']
    · have w : IntKind.i64.wrap ((sumV (dCs x.codes) : Int) + f) = (sumV (dCs x.codes) : Int) + f := by rw [wrap64] <;> omega
      have g0 : 0 ≤ f := by omega
      have g1 : f < ((dCs x.codes).length : Int) := by omega
      simp [s21, xAV, hs, hlc, e, ev, hr, f0, f1, g0, g1, w]
theorem rres_ok (wl lim : Nat) (f : Int) (st : Store) : (orcL S).call wl lim 22 [xAV x, .int .i64 f] st = some (.int .i64 (resT x f), st) := by
  have e := rrR hx hm
  have hs := hx.sl
  have hlc := rowsL_C hx.codes
  have b1 := hm.all
  have b2 := hm.codes
  unfold resT
  simp only [xAV] at e
  refine call_pure (sf := s22) rfl rfl (by simp [hx.pure]) rfl (by simp) ?_
  cases hr : rightT x with
  | false => simp [s22, xAV, hs, e, hr]
  | true =>
    by_cases f0 : f < 0
    · have f0' : ¬ 0 ≤ f := by omega
      simp [s22, xAV, hs, e, hr, f0, f0']
    by_cases f1 : ((dCs x.codes).length : Int) ≤ f
    · have f1' : ¬ f < ((dCs x.codes).length : Int) := by omega
      simp [s22, xAV, hs, hlc, e, hr, f0, f1, f1']
    · have g0 : 0 ≤ f := by omega
      have g1 : f < ((dCs x.codes).length : Int) := by omega
      have ev := fun wl lim st => resultOf_ok wl lim f.toNat st hx hm (by omega)
      rw [Int.toNat_of_nonneg g0] at ev
      simp only [xAV] at ev
      simp [s22, xAV, hs, hlc, e, ev, hr, f0, f1, g0, g1]
theorem glb_ok (wl lim : Nat) (f : Int) (st : Store) : (orcL S).call wl lim 23 [xAV x, .int .i64 f] st = some (.int .i64 (glbT x f), st) := by
  have e := irR hx hm
  have ev := fun wl lim st => variables_ok wl lim st hx hm
  have hs := hx.sl
  have hlc := rowsL_C hx.codes
  have hlg := rowsL_T hx.globals
  have b1 := hm.all
  have b2 := hm.codes
  have b3 := hm.globals
  unfold glbT
  simp only [xAV] at e ev
  refine call_pure (sf := s23) rfl rfl (by simp [hx.pure]) rfl (by simp) ?_
  cases hr : rightT x with
  | false => simp [s23, xAV, hs, e, hr]
  | true =>
    by_cases f0 : f < 0
    · have f0' : ¬ 0 ≤ f := by omega
      simp [s23, xAV, hs, e, hr, f0, f0']
    by_cases f1 : ((dTs x.globals).length : Int) ≤ f
    · have f1' : ¬ f < ((dTs x.globals).length : Int) := by omega
      simp [s23, xAV, hs, hlg, e, hr, f0, f1, f1']
    · have w0 : IntKind.i64.wrap ((sumV (dCs x.codes) : Int) + ((dCs x.codes).length : Int)) = (sumV (dCs x.codes) : Int) + ((dCs x.codes).length : Int) := by rw [wrap64] <;> omega
      have w : IntKind.i64.wrap ((sumV (dCs x.codes) : Int) + ((dCs x.codes).length : Int) + f) = (sumV (dCs x.codes) : Int) + ((dCs x.codes).length : Int) + f := by rw [wrap64] <;> omega
      have g0 : 0 ≤ f := by omega
      have g1 : f < ((dTs x.globals).length : Int) := by omega
      simp [s23, xAV, hs, hlg, hlc, e, ev, hr, f0, f1, g0, g1, w0, w, W_draw0, noBoxes]
theorem rglb_ok (wl lim : Nat) (f : Int) (st : Store) : (orcL S).call wl lim 24 [xAV x, .int .i64 f] st = some (.int .i64 (glbT x f), st) := by
  have e := rrR hx hm
  have hs := hx.sl
  have hlg := rowsL_T hx.globals
  have b3 := hm.globals
  unfold glbT
  simp only [xAV] at e
  refine call_pure (sf := s24) rfl rfl (by simp [hx.pure]) rfl (by simp) ?_
  cases hr : rightT x with
  | false => simp [s24, xAV, hs, e, hr]
  | true =>
    by_cases f0 : f < 0
    · have f0' : ¬ 0 ≤ f := by omega
      simp [s24, xAV, hs, e, hr, f0, f0']
    by_cases f1 : ((dTs x.globals).length : Int) ≤ f
    · have f1' : ¬ f < ((dTs x.globals).length : Int) := by omega
      simp [s24, xAV, hs, hlg, e, hr, f0, f1, f1']
    · have g0 : 0 ≤ f := by omega
      have g1 : f < ((dTs x.globals).length : Int) := by omega
      have ev := fun wl lim st => globalOf_ok wl lim f.toNat st hx hm (by omega)
      rw [Int.toNat_of_nonneg g0] at ev
      simp only [xAV] at ev
      simp [s24, xAV, hs, hlg, e, ev, hr, f0, f1, g0, g1]

theorem var_ok (wl lim : Nat) (f v : Int) (st : Store) : (orcL S).call wl lim 19 [xAV x, .int .i64 f, .int .i64 v] st = some (.int .i64 (varT x f v), st) := by
  have e := irR hx hm
  have ev := fun wl lim st => nodes_ok wl lim st hx hm
  have hs := hx.sl
  have hC := hx.codes
  have hlc := rowsL_C hx.codes
  have b2 := hm.codes
  unfold varT
  simp only [xAV] at e ev
  refine call_pure (sf := s19) rfl rfl (by simp [hx.pure]) rfl (by simp) ?_
  cases hr : rightT x with
  | false => simp [s19, xAV, hs, e, hr]
  | true =>
    by_cases f0 : f < 0
    · have f0' : ¬ 0 ≤ f := by omega
      simp [s19, xAV, hs, e, hr, f0, f0']
    have g0 : 0 ≤ f := by omega
    by_cases f1 : ((dCs x.codes).length : Int) ≤ f
    · have hn : (dCs x.codes)[f.toNat]? = none := List.getElem?_eq_none (by omega)
      simp [s19, xAV, hs, hlc, e, hr, f0, f1, hn]
    have g1 : f.toNat < (dCs x.codes).length := by omega
    have g1' : f < ((dCs x.codes).length : Int) := by omega
    have hF := isCs_get hC _ (List.getElem_mem g1)
    have hTs := isSl_T hF.1
    have hTv := isTs_vw hF.1
    have hTl := rowsL_T hF.1
    have hln := nodesL_len (dCs x.codes) (dCs x.codes).length
    have hgl : ∀ hh, (nodesL (dCs x.codes) (dCs x.codes).length)[f.toNat]'hh = atN x f.toNat := fun hh => nodesL_get _ _ _ hh
    have hflt : f < ((dCs x.codes).length : Int) + 1 := by omega
    have hnv := hm.vars _ (List.getElem_mem g1)
    have hb := hm.sum f.toNat
    unfold nvs at hnv
    by_cases v0 : v < 0
    · have v0' : ¬ 0 ≤ v := by omega
      simp [s19, xAV, hs, hlc, e, hr, f0, f1, v0, v0']
    have w0 : 0 ≤ v := by omega
    by_cases v1 : ((dTs (dCs x.codes)[f.toNat].vars).length : Int) ≤ v
    · have v1' : ¬ v < ((dTs (dCs x.codes)[f.toNat].vars).length : Int) := by omega
      simp [s19, xAV, hs, hC, hlc, e, hr, f0, f1, g0, g1, g1', v0, CD.cells, hTs, hTv, hTl, v1, v1']
    · have v1' : v < ((dTs (dCs x.codes)[f.toNat].vars).length : Int) := by omega
      have w : IntKind.i64.wrap (atN x f.toNat + v) = atN x f.toNat + v := by unfold atN; rw [wrap64] <;> omega
      simp [s19, xAV, hs, hC, hlc, e, ev, hr, f0, f1, g0, g1, g1', v0, w0, CD.cells, hTs, hTv, hTl, v1, v1', hln, hgl, hflt, w]
theorem rvar_ok (wl lim : Nat) (f v : Int) (st : Store) : (orcL S).call wl lim 20 [xAV x, .int .i64 f, .int .i64 v] st = some (.int .i64 (varT x f v), st) := by
  have e := rrR hx hm
  have hs := hx.sl
  have hC := hx.codes
  have hlc := rowsL_C hx.codes
  have b2 := hm.codes
  unfold varT
  simp only [xAV] at e
  refine call_pure (sf := s20) rfl rfl (by simp [hx.pure]) rfl (by simp) ?_
  cases hr : rightT x with
  | false => simp [s20, xAV, hs, e, hr]
  | true =>
    by_cases f0 : f < 0
    · have f0' : ¬ 0 ≤ f := by omega
      simp [s20, xAV, hs, e, hr, f0, f0']
    have g0 : 0 ≤ f := by omega
    by_cases f1 : ((dCs x.codes).length : Int) ≤ f
    · have hn : (dCs x.codes)[f.toNat]? = none := List.getElem?_eq_none (by omega)
      simp [s20, xAV, hs, hlc, e, hr, f0, f1, hn]
    have g1 : f.toNat < (dCs x.codes).length := by omega
    have g1' : f < ((dCs x.codes).length : Int) := by omega
    have hF := isCs_get hC _ (List.getElem_mem g1)
    have hTs := isSl_T hF.1
    have hTv := isTs_vw hF.1
    have hTl := rowsL_T hF.1
    have hnv := hm.vars _ (List.getElem_mem g1)
    unfold nvs at hnv
    by_cases v0 : v < 0
    · have v0' : ¬ 0 ≤ v := by omega
      simp [s20, xAV, hs, hlc, e, hr, f0, f1, v0, v0']
    have w0 : 0 ≤ v := by omega
    by_cases v1 : ((dTs (dCs x.codes)[f.toNat].vars).length : Int) ≤ v
    · have v1' : ¬ v < ((dTs (dCs x.codes)[f.toNat].vars).length : Int) := by omega
      simp [s20, xAV, hs, hC, hlc, e, hr, f0, f1, g0, g1, g1', v0, CD.cells, hTs, hTv, hTl, v1, v1']
    · have v1' : v < ((dTs (dCs x.codes)[f.toNat].vars).length : Int) := by omega
      have ev := fun wl lim st => varOf_ok wl lim f.toNat v.toNat st hx hm (by omega) (by omega)
      rw [Int.toNat_of_nonneg g0, Int.toNat_of_nonneg w0] at ev
      simp only [xAV] at ev
      simp [s20, xAV, hs, hC, hlc, e, ev, hr, f0, f1, g0, g1, g1', v0, w0, CD.cells, hTs, hTv, hTl, v1, v1', atN]
end

theorem law_nodes (x : XD) (f v : Int) (hx : x.ok) : (orcL S).call 0 0 6 [xAV x, .int .i64 f, .int .i64 v] [] = some (.bool true, []) := by
  have hs := hx.sl
  have hg := great_ok 0 0 [] hx
  simp only [xAV] at hg
  refine call_pure (sf := s6) rfl rfl (by simp [hx.pure]) rfl (by simp) ?_
  cases eg : greatT x with
  | true => simp [s6, xAV, hs, hg, eg]
  | false =>
    have hm := great_Sm eg
    have e1 := var_ok hx hm 0 0 f v []
    have e2 := rvar_ok hx hm 0 0 f v []
    have e3 := res_ok hx hm 0 0 f []
    have e4 := rres_ok hx hm 0 0 f []
    have e5 := glb_ok hx hm 0 0 v []
    have e6 := rglb_ok hx hm 0 0 v []
    have e7 := known_any 0 0 []
    simp only [xAV] at e1 e2 e3 e4 e5 e6
    simp [s6, xAV, hs, hg, eg, e1, e2, e3, e4, e5, e6, e7, W_draw0, noBoxes]
end U12
