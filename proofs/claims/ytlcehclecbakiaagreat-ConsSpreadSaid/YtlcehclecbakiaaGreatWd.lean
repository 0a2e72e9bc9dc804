/- Part of a proof. -/
import Derived.Test.YtlcehclecbakiaaGreatWc

namespace U12
open Ax Go Code19 IrV
set_option maxRecDepth 100000
set_option maxHeartbeats 8000000

theorem law_spread (x : XD) (hx : x.ok) : (orcL S).call 0 0 7 [xAV x] [] = some (.bool true, []) := by
  have hs := hx.sl
  have hC := hx.codes
  have hlc := rowsL_C hx.codes
  have hlg := rowsL_T hx.globals
  have hg := great_ok 0 0 [] hx
  simp only [xAV] at hg
  refine call_pure (sf := s7) rfl rfl (by simp [hx.pure]) rfl (by simp) ?_
  cases eg : greatT x with
  | true => simp [s7, xAV, hs, hg, eg]
  | false =>
    have hm := great_Sm eg
    have er := rrR hx hm 0 0 []
    have ev := fun f v => var_ok hx hm 0 0 f v []
    have es := fun f => res_ok hx hm 0 0 f []
    have el := fun g => glb_ok hx hm 0 0 g []
    have ec := count_ok hx hm 0 0 []
    have e7 := known_any 0 0 []
    have ball := hm.all
    have bc := hm.codes
    have bg := hm.globals
    simp only [xAV] at er ev es el ec
    cases hr : rightT x with
    | false => simp [s7, xAV, hs, hg, eg, er, hr]
    | true =>
      have rl : resT x (dCs x.codes).length = -1 := by simp [resT]
      have gl : glbT x (dTs x.globals).length = -1 := by simp [glbT]
      have cl : countT x = sumV (dCs x.codes) + (dCs x.codes).length + (dTs x.globals).length := by simp [countT, hr]
      simp [s7, xAV, hs, hg, eg, er, hr]
      refine W_loopI s7_l1.eq_1 (fun k : Nat => ⟨[(1, .fp 0 0), (3, .val (.int .i64 (atN x k))), (4, .val (.int .i64 k))], [[x.recs, x.globals, x.codes, x.sites, .int .i64 x.main]], []⟩)
        (fun k => k ≤ (dCs x.codes).length) (fun k => (dCs x.codes).length - k) 0 (by simp [atN, sumV]) (by simp) ?_
      intro k hk ih
      by_cases hlt : k < (dCs x.codes).length
      · have hw : IntKind.i64.wrap ((k : Int) + 1) = ((k + 1 : Nat) : Int) := by rw [wrap64] <;> omega
        have hF := isCs_get hC _ (List.getElem_mem hlt)
        have hTs := isSl_T hF.1
        have hTv := isTs_vw hF.1
        have hTl := rowsL_T hF.1
        have hnv := hm.vars _ (List.getElem_mem hlt)
        have hb := hm.sum k
        have hsucc : atN x (k + 1) = atN x k + (dTs (dCs x.codes)[k].vars).length := by
          unfold atN
          rw [sumV_take hlt]
          rfl
        have vv : ∀ v : Nat, v < (dTs (dCs x.codes)[k].vars).length → varT x k v = atN x k + v := fun v hv => by
          have : (v : Int) < ((dTs (dCs x.codes)[k].vars).length : Int) := by omega
          simp [varT, hr, hlt, hv]
        have vn : varT x k (dTs (dCs x.codes)[k].vars).length = -1 := by simp [varT, hr, hlt]
        have vm : varT x k (-1) = -1 := by simp [varT]
        unfold nvs at hnv
        simp [hs, hlc, hlt]
        refine W_loopI s7_l0.eq_1 (fun v : Nat => ⟨[(1, .fp 0 0), (3, .val (.int .i64 (atN x k + v))), (4, .val (.int .i64 k)), (5, .val (.int .i64 v))], [[x.recs, x.globals, x.codes, x.sites, .int .i64 x.main]], []⟩)
          (fun v => v ≤ (dTs (dCs x.codes)[k].vars).length) (fun v => (dTs (dCs x.codes)[k].vars).length - v) 0 (by simp) (by simp) ?_
        intro v hv ihv
        by_cases hvl : v < (dTs (dCs x.codes)[k].vars).length
        · have hwv : IntKind.i64.wrap ((v : Int) + 1) = ((v + 1 : Nat) : Int) := by rw [wrap64] <;> omega
          have hwn : IntKind.i64.wrap (atN x k + (v : Int) + 1) = atN x k + ((v + 1 : Nat) : Int) := by unfold atN; rw [wrap64] <;> omega
          have e := vv v hvl
          simp [hs, hC, hlc, hlt, CD.cells, hTs, hTv, hTl, hvl, ev, e, hwv, hwn]
          exact ihv (v + 1) (by omega) (by omega)
        · have hvk : v = (dTs (dCs x.codes)[k].vars).length := by omega
          subst hvk
          simp [hs, hC, hlc, hlt, CD.cells, hTs, hTv, hTl, ev, vn, vm, hw, W_draw0, noBoxes]
          have := ih (k + 1) (by omega) (by omega)
          simp only [hsucc] at this
          exact this
      · have hkl : k = (dCs x.codes).length := by omega
        subst hkl
        have hall : atN x (dCs x.codes).length = sumV (dCs x.codes) := by unfold atN; rw [List.take_length]
        simp [hs, hlc, hall]
        refine W_loopI s7_l2.eq_1 (fun k : Nat => ⟨[(1, .fp 0 0), (3, .val (.int .i64 (sumV (dCs x.codes) + k))), (6, .val (.int .i64 k))], [[x.recs, x.globals, x.codes, x.sites, .int .i64 x.main]], []⟩)
          (fun k => k ≤ (dCs x.codes).length) (fun k => (dCs x.codes).length - k) 0 (by simp) (by simp) ?_
        intro k hk ih2
        by_cases hlt : k < (dCs x.codes).length
        · have hw : IntKind.i64.wrap ((k : Int) + 1) = ((k + 1 : Nat) : Int) := by rw [wrap64] <;> omega
          have hwn : IntKind.i64.wrap ((sumV (dCs x.codes) : Int) + (k : Int) + 1) = (sumV (dCs x.codes) : Int) + ((k + 1 : Nat) : Int) := by rw [wrap64] <;> omega
          have e : resT x k = sumV (dCs x.codes) + k := by simp [resT, hr, hlt]
          simp [hs, hlc, hlt, es, e, hw, hwn]
          exact ih2 (k + 1) (by omega) (by omega)
        · have hkl : k = (dCs x.codes).length := by omega
          subst hkl
          simp [hs, hlc]
          refine W_loopI s7_l3.eq_1 (fun k : Nat => ⟨[(1, .fp 0 0), (3, .val (.int .i64 (sumV (dCs x.codes) + (dCs x.codes).length + k))), (7, .val (.int .i64 k))], [[x.recs, x.globals, x.codes, x.sites, .int .i64 x.main]], []⟩)
            (fun k => k ≤ (dTs x.globals).length) (fun k => (dTs x.globals).length - k) 0 (by simp) (by simp) ?_
          intro k hk ih3
          by_cases hlt : k < (dTs x.globals).length
          · have hw : IntKind.i64.wrap ((k : Int) + 1) = ((k + 1 : Nat) : Int) := by rw [wrap64] <;> omega
            have hwn : IntKind.i64.wrap ((sumV (dCs x.codes) : Int) + ((dCs x.codes).length : Int) + (k : Int) + 1) = (sumV (dCs x.codes) : Int) + (dCs x.codes).length + ((k + 1 : Nat) : Int) := by rw [wrap64] <;> omega
            have e : glbT x k = sumV (dCs x.codes) + (dCs x.codes).length + k := by simp [glbT, hr, hlt]
            simp [hs, hlg, hlt, el, e, hw, hwn]
            exact ih3 (k + 1) (by omega) (by omega)
          · have hkl : k = (dTs x.globals).length := by omega
            subst hkl
            simp [hs, hlg, hlc, ec, cl, es, rl, el, gl, e7]
end U12
