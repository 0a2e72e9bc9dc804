/- Part of a proof. -/
import Derived.Test.YthhebfamepmagaaN
import Derived.Test.YthhebfamepmagaaW

namespace N7
open Ax Go Code7 V7 Par U7
set_option maxRecDepth 100000
set_option maxHeartbeats 8000000

def revP (p : Pg) : Pg := ⟨p.recs.reverse, p.globals, p.funcs⟩
theorem rev_in {N : Int} {p : Pg} (h : Pg.In N p) : Pg.In N (revP p) := ⟨⟨by simpa [revP] using h.r.1, fun x hx => h.r.2 x (by simpa [revP] using hx)⟩, h.g, h.f⟩
theorem law_turned (s : List UInt8) : (orcL S).call 0 0 6 [.str s] [] = some (.bool true, []) := by
  have ep := fun wl lim => prog_ok wl lim s []
  obtain ⟨hin, _⟩ := progS_in s
  have e2 := fun wl lim => rmake_ok wl lim (gdOf (progS s).1) [] (gd_ok hin) (gd_sm hin)
  have e1 := fun wl lim => make_ok wl lim (gdOf (revP (progS s).1)) [] (gd_ok (rev_in hin)) (gd_sm (rev_in hin))
  rw [gd_cells] at e1 e2
  generalize progS s = P at *
  obtain ⟨p, fe, fa⟩ := P
  simp only at hin e1 e2
  have key := turn_none (p := gdOf p) (q := gdOf (revP p)) (by rw [dCRs_gd, dCRs_gd]; simp [revP]) rfl rfl
  have hlr := hin.r.1
  refine call_pure (sf := s6) rfl rfl (by simp) rfl (by simp) ?_
  by_cases hl : (4000 : Int) < (s.length : Int)
  · simp only [Pg.row] at ep
    simp [s6, ep, hl]
  by_cases hf0 : fe ≠ 0
  · simp only [Pg.row] at ep
    simp [s6, ep, hl, hf0]
  have hf : fe = 0 := Classical.not_not.1 hf0
  cases hF : faultH (gdOf p) with
  | some y =>
    have e2' : ∀ wl lim, (orcL S).call wl lim 11 [.agg p.row] [] = some (.tup [zeroH, .agg [.int .i64 3, .int .i64 y]], []) := fun wl lim => by
      rw [e2]; unfold resH; rw [hF]; rfl
    simp only [Pg.row, zeroH] at ep e2'
    simp [s6, ep, hl, hf, e2', known0]
  | none =>
    obtain ⟨hne, hF2, hrn⟩ := key hF
    have e2' : ∀ wl lim, (orcL S).call wl lim 11 [.agg p.row] [] = some (.tup [headsV (gdOf p), .agg [.int .i64 0, .int .i64 0]], []) := fun wl lim => by
      rw [e2]; unfold resH; rw [hF]; rfl
    have e1' : ∀ wl lim, (orcL S).call wl lim 10 [.agg (revP p).row] [] = some (.tup [headsV (gdOf (revP p)), .agg [.int .i64 0, .int .i64 0]], []) := fun wl lim => by
      rw [e1]; unfold resH; rw [hF2]; rfl
    have hq : (revP p).row = [lstV 3 (p.recs.reverse.map Rc.row), lstV 4 (p.globals.map PD.cells), lstV 7 (p.funcs.map Fc.row)] := rfl
    rw [hq] at e1'
    clear e1 e2 key hq
    simp only [Pg.row] at ep e2'
    unfold headsV at e1' e2'
    rw [hrn] at e1'
    generalize hrs : recN (dCRs (gdOf p).recs) = rs at *
    have hrl : rs.length = p.recs.length := by rw [← hrs, dCRs_gd]; simp [recN]
    have hR : ∀ (rs : List (List UInt8)) (q : Pg), recRows rs (dCRs (gdOf q).recs) = q.recs.map fun r => [.str r.name, lstV 4 (fldRows rs r.fields)] := fun rs q => by
      rw [dCRs_gd, recRows, List.map_map]
      exact List.map_congr_left fun r _ => by simp only [Function.comp, recRow, crOf, dPs_lst]; rfl
    have hS : ∀ (rs : List (List UInt8)) (q : Pg), sigRows rs (dFNs (gdOf q).funcs) = q.funcs.map fun x => [.str x.name, lstV 4 (fldRows rs x.params), .bool x.has, .int .i64 (resT rs (fnOf x)).b, .int .i64 (resT rs (fnOf x)).r, .int .i64 (resT rs (fnOf x)).d] := fun rs q => by
      rw [dFNs_gd, sigRows, List.map_map]
      exact List.map_congr_left fun r _ => by simp only [Function.comp, sigRow, fnOf, dPs_lst]; rfl
    have hM : mainI (dFNs (gdOf (revP p)).funcs) = mainI (dFNs (gdOf p).funcs) := rfl
    have hG : ∀ q, dPs (gdOf q).globals = q.globals := dPs_gd
    rw [hR, hS, hG] at e1' e2'
    rw [hM] at e1'
    generalize mainI (dFNs (gdOf p).funcs) = mn at *
    simp only [revP] at e1'
    obtain ⟨HR, hHR⟩ : ∃ HR, p.recs.reverse.map (fun r => [AV.str r.name, lstV 4 (fldRows rs.reverse r.fields)]) = HR := ⟨_, rfl⟩
    obtain ⟨RV, hRV⟩ : ∃ RV, lstV 3 (p.recs.reverse.map Rc.row) = RV := ⟨_, rfl⟩
    have hRV1 : isSl RV = true := by rw [← hRV]; simp
    have hRV2 : RV.view = RV := by rw [← hRV]; simp
    rw [hHR, hRV] at e1'
    have hHRl : HR.length = p.recs.length := by rw [← hHR]; simp
    have hHRg : ∀ i (h : i < p.recs.length) (h2 : p.recs.length - 1 - i < HR.length), HR[p.recs.length - 1 - i] = [AV.str p.recs[i].name, lstV 4 (fldRows rs.reverse p.recs[i].fields)] := fun i h h2 => by
      simp only [← hHR, List.getElem_map, List.getElem_reverse]
      have : p.recs.length - 1 - (p.recs.length - 1 - i) = i := by omega
      simp only [this]
    have hL : ∀ sz rows, (mkL sz rows).view = lstV sz rows := fun _ _ => rfl
    simp only [hL] at e1' e2'
    have hty : ∀ s d, typeT rs.reverse s d = (tu p.recs.length (typeT rs s d).1, (typeT rs s d).2) := fun s d => by rw [← hrl]; exact type_rev hne s d
    have hres : ∀ x, resT rs.reverse x = tu p.recs.length (resT rs x) := fun x => by
      unfold U7.resT
      split
      · rw [hty]
      · rfl
    have htin : ∀ s d, (typeT rs s d).1.b = 3 → 0 ≤ (typeT rs s d).1.r ∧ (typeT rs s d).1.r < (p.recs.length : Nat) := fun s d => by rw [← hrl]; exact type_in rs s d
    have hrin : ∀ x, (resT rs x).b = 3 → 0 ≤ (resT rs x).r ∧ (resT rs x).r < (p.recs.length : Nat) := fun x => by
      unfold U7.resT
      split
      · exact htin _ _
      · intro h; cases h
    have hw1 : IntKind.i64.wrap ((p.recs.length : Int) - 1) = (p.recs.length : Int) - 1 := by rw [wrap64] <;> omega
    have hz3 : isSz 3 (lstV 3 (p.recs.map Rc.row)) = true := isSz_lstV (by simp [fits, Rc.row])
    have hz2 : isSz 2 (lstV 2 (p.recs.map fun r => [.str r.name, lstV 4 (fldRows rs r.fields)])) = true := isSz_lstV (by simp [fits])
    have hz2' : isSz 2 (lstV 2 HR) = true := isSz_lstV (by rw [← hHR]; simp [fits])
    have hz4 : ∀ rs l, isSz 4 (lstV 4 (fldRows rs l)) = true := fun rs l => isSz_lstV (by simp [fits, fldRows, fldRow])
    have hz6 : ∀ rs : List (List UInt8), isSz 6 (lstV 6 (p.funcs.map fun x => [.str x.name, lstV 4 (fldRows rs x.params), .bool x.has, .int .i64 (resT rs (fnOf x)).b, .int .i64 (resT rs (fnOf x)).r, .int .i64 (resT rs (fnOf x)).d])) = true := fun rs => isSz_lstV (by simp [fits])
    have hfl : ∀ rs l, (fldRows rs l).length = l.length := fun rs l => by simp [fldRows]
    have eT := fun wl lim t h st => turned_ok wl lim t p.recs.length st (by omega) h
    simp [s6, ep, hl, hf, e2', hw1]
    refine W_loopI s6_l0.eq_1 (fun y : Nat × Int => ⟨[(3, .fp 0 0), (5, .fp 2 0), (7, .val (.int .i64 p.recs.length)), (8, .fp 4 0), (9, .val (.int .i64 y.2))],
        [[lstV 3 (List.map Rc.row p.recs), lstV 4 (List.map PD.cells p.globals), lstV 7 (List.map Fc.row p.funcs)], [.int .i64 0, .int .i64 fa],
         [lstV 2 (p.recs.map fun r => [.str r.name, lstV 4 (fldRows rs r.fields)]), lstV 4 (fldRows rs p.globals), lstV 6 (p.funcs.map fun x => [.str x.name, lstV 4 (fldRows rs x.params), .bool x.has, .int .i64 (resT rs (fnOf x)).b, .int .i64 (resT rs (fnOf x)).r, .int .i64 (resT rs (fnOf x)).d]), .int .i64 mn],
         [.int .i64 0, .int .i64 0], [mkL 3 ((p.recs.reverse.take y.1).map Rc.row), lstV 4 (List.map PD.cells p.globals), lstV 7 (List.map Fc.row p.funcs)], [], [], [], []], []⟩)
      (fun y => y.1 ≤ p.recs.length ∧ y.2 = (p.recs.length : Int) - 1 - (y.1 : Int)) (fun y => p.recs.length - y.1) (0, (p.recs.length : Int) - 1) (by simp [mkL_nil]) (by simp) ?_
    rintro ⟨k, z⟩ ⟨hk, hz⟩ ih
    simp only at hk hz ih
    by_cases hlt : k < p.recs.length
    · obtain ⟨m, rfl⟩ : ∃ m : Nat, z = m := ⟨z.toNat, by omega⟩
      have hmk : p.recs.length - 1 - k = m := by omega
      have c3 : m < p.recs.length := by omega
      have hw2 : IntKind.i64.wrap ((m : Int) - 1) = (m : Int) - 1 := by rw [wrap64] <;> omega
      have hap : appV 3 48 (mkL 3 ((p.recs.reverse.take k).map Rc.row)) [(p.recs[m]).row] = some (mkL 3 ((p.recs.reverse.take (k + 1)).map Rc.row)) := by
        rw [appV_mk (by simp [fits, Rc.row]) (by simp [room]; omega)]
        have hk' : k < p.recs.reverse.length := by rw [List.length_reverse]; exact hlt
        have : p.recs.reverse[k] = p.recs[m] := by
          rw [List.getElem_reverse]
          congr 1
        rw [List.take_succ_eq_append_getElem hk', List.map_append, List.map_cons, List.map_nil, this]
      have ih' := ih (k + 1, (m : Int) - 1) ⟨by simp only; omega, by simp only; omega⟩ (by simp only; omega)
      simp only at ih'
      have hRs : isSl (mkL 3 ((p.recs.reverse.take (k + 1)).map Rc.row)) = true := isSl_mk
      generalize mkL 3 ((p.recs.reverse.take (k + 1)).map Rc.row) = R at *
      generalize mkL 3 ((p.recs.reverse.take k).map Rc.row) = R0 at *
      simp only [Rc.row] at hap
      simp [c3, hz3, hw2, hap, hRs, Rc.row, W_drawB, boxOk, paste, AV.view]
      exact ih'
    · have hkl : k = p.recs.length := by omega
      subst hkl
      have c1 : ¬ (0 : Int) ≤ z := by omega
      have hrl2 : (mkL 3 ((p.recs.reverse.take p.recs.length).map Rc.row)).view = RV := by rw [List.take_of_length_le (by simp), ← hRV]; rfl
      have hr3 : isSl (mkL 3 ((p.recs.reverse.take p.recs.length).map Rc.row)) = true := isSl_mk
      generalize mkL 3 ((p.recs.reverse.take p.recs.length).map Rc.row) = R at *
      simp [c1, hrl2, e1', hHRl, hfl]
      generalize hBX4 : ([R, lstV 4 (List.map PD.cells p.globals), lstV 7 (List.map Fc.row p.funcs)] : List AV) = BX4
      refine W_loopI s6_l2.eq_1 (fun y : Nat × List AV × List AV => ⟨[(5, .fp 2 0), (7, .val (.int .i64 p.recs.length)), (10, .fp 5 0), (12, .val (.int .i64 y.1))],
        [[lstV 3 (List.map Rc.row p.recs), lstV 4 (List.map PD.cells p.globals), lstV 7 (List.map Fc.row p.funcs)], [.int .i64 0, .int .i64 fa],
         [lstV 2 (p.recs.map fun r => [.str r.name, lstV 4 (fldRows rs r.fields)]), lstV 4 (fldRows rs p.globals), lstV 6 (p.funcs.map fun x => [.str x.name, lstV 4 (fldRows rs x.params), .bool x.has, .int .i64 (resT rs (fnOf x)).b, .int .i64 (resT rs (fnOf x)).r, .int .i64 (resT rs (fnOf x)).d]), .int .i64 mn],
         [.int .i64 0, .int .i64 0], BX4,
         [lstV 2 HR, lstV 4 (fldRows rs.reverse p.globals), lstV 6 (p.funcs.map fun x => [.str x.name, lstV 4 (fldRows rs.reverse x.params), .bool x.has, .int .i64 (resT rs.reverse (fnOf x)).b, .int .i64 (resT rs.reverse (fnOf x)).r, .int .i64 (resT rs.reverse (fnOf x)).d]), .int .i64 mn],
         [.int .i64 0, .int .i64 0], y.2.1, y.2.2], []⟩)
        (fun y => y.1 ≤ p.recs.length) (fun y => p.recs.length - y.1) (0, [], []) rfl (by simp) ?_
      rintro ⟨i, c7, c8⟩ hi ih2
      simp only at hi ih2
      by_cases hil : i < p.recs.length
      · have d1 : (i : Int) < (p.recs.length : Int) := by omega
        have d2 : p.recs.length - 1 - i < HR.length := by omega
        have d3 : p.recs.length - 1 - i < p.recs.length := by omega
        have hw3 : IntKind.i64.wrap ((p.recs.length : Int) - 1 - (i : Int)) = ((p.recs.length - 1 - i : Nat) : Int) := by rw [wrap64] <;> omega
        have hw4 : IntKind.i64.wrap ((i : Int) + 1) = ((i + 1 : Nat) : Int) := by rw [wrap64] <;> omega
        have hg := hHRg i hil d2
        have hjn : p.recs[i].fields.length < 1000000 := by have := (hin.r.2 _ (List.getElem_mem hil)).len; omega
        have ih2' := fun c7 c8 => ih2 (i + 1, c7, c8) (by simp only; omega) (by simp only; omega)
        simp only at ih2'
        have hfg : ∀ rs (l : List PD) j (h : j < l.length) (h2 : j < (fldRows rs l).length), (fldRows rs l)[j] = [.str l[j].name, .int .i64 (typeT rs l[j].on l[j].od).1.b, .int .i64 (typeT rs l[j].on l[j].od).1.r, .int .i64 (typeT rs l[j].on l[j].od).1.d] := fun rs l j h h2 => by
          simp [fldRows, fldRow]
        have gi : p.recs[i]? = some p.recs[i] := List.getElem?_eq_getElem hil
        have hty' := fun f : PD => hty f.on f.od
        simp [d1, d3, gi, hz2, hz2', hw1, hw3, hHRl, hg, hfl, W_drawB, boxOk, SOp.newBox, noFp, paste, AV.view]
        generalize hfs : p.recs[i].fields = fs at *
        generalize p.recs[i].name = nm at *
        refine W_loopI s6_l1.eq_1 (fun j : Nat => ⟨[(5, .fp 2 0), (7, .val (.int .i64 p.recs.length)), (10, .fp 5 0), (12, .val (.int .i64 i)), (13, .fp 7 0), (14, .fp 8 0), (15, .val (.int .i64 j))],
          [[lstV 3 (List.map Rc.row p.recs), lstV 4 (List.map PD.cells p.globals), lstV 7 (List.map Fc.row p.funcs)], [.int .i64 0, .int .i64 fa],
         [lstV 2 (p.recs.map fun r => [.str r.name, lstV 4 (fldRows rs r.fields)]), lstV 4 (fldRows rs p.globals), lstV 6 (p.funcs.map fun x => [.str x.name, lstV 4 (fldRows rs x.params), .bool x.has, .int .i64 (resT rs (fnOf x)).b, .int .i64 (resT rs (fnOf x)).r, .int .i64 (resT rs (fnOf x)).d]), .int .i64 mn],
         [.int .i64 0, .int .i64 0], BX4,
         [lstV 2 HR, lstV 4 (fldRows rs.reverse p.globals), lstV 6 (p.funcs.map fun x => [.str x.name, lstV 4 (fldRows rs.reverse x.params), .bool x.has, .int .i64 (resT rs.reverse (fnOf x)).b, .int .i64 (resT rs.reverse (fnOf x)).r, .int .i64 (resT rs.reverse (fnOf x)).d]), .int .i64 mn],
         [.int .i64 0, .int .i64 0], [.str nm, lstV 4 (fldRows rs.reverse fs)], [.str nm, lstV 4 (fldRows rs fs)]], []⟩) (fun j => j ≤ fs.length) (fun j => fs.length - j) 0 rfl (by simp) ?_
        intro j hj ih3
        by_cases hjl : j < fs.length
        · have gj : ∀ rs, (fldRows rs fs)[j]? = some [.str fs[j].name, .int .i64 (typeT rs fs[j].on fs[j].od).1.b, .int .i64 (typeT rs fs[j].on fs[j].od).1.r, .int .i64 (typeT rs fs[j].on fs[j].od).1.d] := fun rs => by
            rw [List.getElem?_eq_getElem (by rw [hfl]; exact hjl)]
            exact congrArg some (hfg rs fs j hjl _)
          have gj2 := gj rs.reverse
          rw [hty] at gj2
          have gj1 := gj rs
          have hw5 : IntKind.i64.wrap ((j : Int) + 1) = ((j + 1 : Nat) : Int) := by rw [wrap64] <;> omega
          have et := fun wl lim st => eT wl lim (typeT rs fs[j].on fs[j].od).1 (htin _ _) st
          have ih3' := ih3 (j + 1) (by omega) (by omega)
          have hget : ∀ rs (h : j < (fldRows rs fs).length), (fldRows rs fs)[j] = [.str fs[j].name, .int .i64 (typeT rs fs[j].on fs[j].od).1.b, .int .i64 (typeT rs fs[j].on fs[j].od).1.r, .int .i64 (typeT rs fs[j].on fs[j].od).1.d] := fun rs h => hfg rs fs j hjl h
          have hget1 := hget rs
          have hget2 := hget rs.reverse
          rw [hty] at hget2
          generalize (typeT rs fs[j].on fs[j].od).1 = ty at *
          simp only [T3.cells] at et
          simp [hjl, hfl, hz4, hget1, hget2, et, hw5, AV.view, W_draw0, noBoxes]
          exact ih3'
        · have hje : j = fs.length := by omega
          subst hje
          simp [hfl, hw4]
          exact ih2' _ _
      · have hin2 : i = p.recs.length := by omega
        subst hin2
        simp
        refine W_loopI s6_l3.eq_1 (fun j : Nat => ⟨[(5, .fp 2 0), (7, .val (.int .i64 p.recs.length)), (10, .fp 5 0), (16, .val (.int .i64 j))],
          [[lstV 3 (List.map Rc.row p.recs), lstV 4 (List.map PD.cells p.globals), lstV 7 (List.map Fc.row p.funcs)], [.int .i64 0, .int .i64 fa],
         [lstV 2 (p.recs.map fun r => [.str r.name, lstV 4 (fldRows rs r.fields)]), lstV 4 (fldRows rs p.globals), lstV 6 (p.funcs.map fun x => [.str x.name, lstV 4 (fldRows rs x.params), .bool x.has, .int .i64 (resT rs (fnOf x)).b, .int .i64 (resT rs (fnOf x)).r, .int .i64 (resT rs (fnOf x)).d]), .int .i64 mn],
         [.int .i64 0, .int .i64 0], BX4,
         [lstV 2 HR, lstV 4 (fldRows rs.reverse p.globals), lstV 6 (p.funcs.map fun x => [.str x.name, lstV 4 (fldRows rs.reverse x.params), .bool x.has, .int .i64 (resT rs.reverse (fnOf x)).b, .int .i64 (resT rs.reverse (fnOf x)).r, .int .i64 (resT rs.reverse (fnOf x)).d]), .int .i64 mn],
         [.int .i64 0, .int .i64 0], c7, c8], []⟩) (fun j => j ≤ p.globals.length) (fun j => p.globals.length - j) 0 rfl (by simp) ?_
        intro j hj ih3
        have hgl := hin.g.1
        have hfn := hin.f.1
        by_cases hjl : j < p.globals.length
        · have hget : ∀ rs (h : j < (fldRows rs p.globals).length), (fldRows rs p.globals)[j] = [.str p.globals[j].name, .int .i64 (typeT rs p.globals[j].on p.globals[j].od).1.b, .int .i64 (typeT rs p.globals[j].on p.globals[j].od).1.r, .int .i64 (typeT rs p.globals[j].on p.globals[j].od).1.d] := fun rs h => by
            simp [fldRows, fldRow]
          have gj : ∀ rs, (fldRows rs p.globals)[j]? = some [.str p.globals[j].name, .int .i64 (typeT rs p.globals[j].on p.globals[j].od).1.b, .int .i64 (typeT rs p.globals[j].on p.globals[j].od).1.r, .int .i64 (typeT rs p.globals[j].on p.globals[j].od).1.d] := fun rs => by
            rw [List.getElem?_eq_getElem (by rw [hfl]; exact hjl)]
            exact congrArg some (hget rs _)
          have gj2 := gj rs.reverse
          rw [hty] at gj2
          have gj1 := gj rs
          have hw5 : IntKind.i64.wrap ((j : Int) + 1) = ((j + 1 : Nat) : Int) := by rw [wrap64] <;> omega
          have et := fun wl lim st => eT wl lim (typeT rs p.globals[j].on p.globals[j].od).1 (htin _ _) st
          have ih3' := ih3 (j + 1) (by omega) (by omega)
          have hget1 := hget rs
          have hget2 := hget rs.reverse
          rw [hty] at hget2
          generalize (typeT rs p.globals[j].on p.globals[j].od).1 = ty at *
          simp only [T3.cells] at et
          simp [hjl, hfl, hz4, hget1, hget2, et, hw5, AV.view, W_draw0, noBoxes]
          exact ih3'
        · have hje : j = p.globals.length := by omega
          subst hje
          simp [hfl]
          refine W_loopI s6_l4.eq_1 (fun j : Nat => ⟨[(5, .fp 2 0), (7, .val (.int .i64 p.recs.length)), (10, .fp 5 0), (17, .val (.int .i64 j))],
            [[lstV 3 (List.map Rc.row p.recs), lstV 4 (List.map PD.cells p.globals), lstV 7 (List.map Fc.row p.funcs)], [.int .i64 0, .int .i64 fa],
         [lstV 2 (p.recs.map fun r => [.str r.name, lstV 4 (fldRows rs r.fields)]), lstV 4 (fldRows rs p.globals), lstV 6 (p.funcs.map fun x => [.str x.name, lstV 4 (fldRows rs x.params), .bool x.has, .int .i64 (resT rs (fnOf x)).b, .int .i64 (resT rs (fnOf x)).r, .int .i64 (resT rs (fnOf x)).d]), .int .i64 mn],
         [.int .i64 0, .int .i64 0], BX4,
         [lstV 2 HR, lstV 4 (fldRows rs.reverse p.globals), lstV 6 (p.funcs.map fun x => [.str x.name, lstV 4 (fldRows rs.reverse x.params), .bool x.has, .int .i64 (resT rs.reverse (fnOf x)).b, .int .i64 (resT rs.reverse (fnOf x)).r, .int .i64 (resT rs.reverse (fnOf x)).d]), .int .i64 mn],
         [.int .i64 0, .int .i64 0], c7, c8], []⟩) (fun j => j ≤ p.funcs.length) (fun j => p.funcs.length - j) 0 rfl (by simp) ?_
          intro j hj ih3
          by_cases hjl : j < p.funcs.length
          · have gj : p.funcs[j]? = some p.funcs[j] := List.getElem?_eq_getElem hjl
            have hw5 : IntKind.i64.wrap ((j : Int) + 1) = ((j + 1 : Nat) : Int) := by rw [wrap64] <;> omega
            have et := fun wl lim st => eT wl lim (resT rs (fnOf p.funcs[j])) (hrin _) st
            have hr2 := hres (fnOf p.funcs[j])
            have ih3' := ih3 (j + 1) (by omega) (by omega)
            simp only [T3.cells] at et
            simp [hjl, hz6, hr2, et, hw5, AV.view, W_draw0, noBoxes]
            exact ih3'
          · have hje : j = p.funcs.length := by omega
            subst hje
            simp [known0]
end N7
