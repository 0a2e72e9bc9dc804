/- Part of a proof. -/
import Derived.Test.YthhebfamepmagaaCode2
import Derived.Test.YthhebfamepmagaaV
import Derived.Test.YthhebfamepmagaaK
import Derived.KernelRfl

namespace U7
open Ax Go Code7 V7
set_option maxRecDepth 100000
set_option maxHeartbeats 4000000

theorem index_ok (wl lim : Nat) (l : AV) (s : List UInt8) (st : Store) (hl : isSts l = true) (hn : (dSts l).length < 1000000000) :
    (orcL S).call wl lim 39 [l, .str s] st = some (.int .i64 (idxS (dSts l) s), st) := by
  have h1 := isSl_St hl
  have h2 := isSts_vw hl
  have h3 := rowsL_St hl
  refine call_pure (sf := s39) rfl rfl (by simp [pure_sl h1]) rfl (by simp) ?_
  simp [s39, h1, h2, h3]
  refine W_loopI s39_l0.eq_1 (fun q : Nat × Int => ⟨[(0, .val l), (1, .val (.str s)), (7, .val (.int .i64 (dSts l).length)), (8, .val (.int .i64 q.1))], [], []⟩)
    (fun q => q.1 ≤ (dSts l).length ∧ nope (fun x => decide (x = s)) (dSts l) q.1) (fun q => (dSts l).length - q.1) (0, 0) (by simp) ⟨by simp, nope_zero⟩ ?_
  rintro ⟨k, bb⟩ ⟨hk, hp⟩ ih
  simp only at hk hp ih
  by_cases hlt : k < (dSts l).length
  · have hw : IntKind.i64.wrap ((k : Int) + 1) = ((k + 1 : Nat) : Int) := by rw [wrap64] <;> omega
    by_cases e : (dSts l)[k] = s
    · have hi := idxS_at hp hlt e
      simp [hl, h2, h3, hlt, e, hi]
    · have e' : ¬ s = (dSts l)[k] := fun h => e h.symm
      simp [hl, h2, h3, hlt, e', hw]
      exact ih (k + 1, 0) ⟨by simp; omega, nope_succ hp hlt (by simpa using e)⟩ (by simp; omega)
  · have hkl : k = (dSts l).length := by omega
    have hi := idxS_none (hkl ▸ hp)
    simp [hlt, hi]

theorem typeT_1 {l : List (List UInt8)} {s : List UInt8} {d : Int} (h : d < 0 ∨ 3 < d) : typeT l s d = (T0, false) := if_pos h

theorem type_ok (wl lim : Nat) (l : AV) (s : List UInt8) (d : Int) (st : Store) (hl : isSts l = true) (hn : (dSts l).length < 1000000000) :
    (orcL S).call wl lim 15 [l, .agg [.str s, .int .i64 d]] st = some (.tup [.agg (typeT (dSts l) s d).1.cells, .bool (typeT (dSts l) s d).2], st) := by
  have h1 := isSl_St hl
  have h2 := isSts_vw hl
  have hi := index_ok 0 0 l s [] hl hn
  refine call_pure (sf := s15) rfl rfl (by simp [pure_sl h1]) rfl (by simp [AV.isPure, AV.allPure]) ?_
  by_cases d0 : d < 0
  · rw [typeT_1 (.inl d0)]
    simp [s15, d0]
  by_cases d3 : 3 < d
  · rw [typeT_1 (.inr d3)]
    simp [s15, d0, d3]
  have hd : ¬ (d < 0 ∨ 3 < d) := by omega
  unfold typeT
  rw [if_neg hd]
  by_cases i1 : s = [105, 110, 116]
  · simp [s15, d0, d3, i1]
  by_cases i2 : s = [98, 111, 111, 108]
  · simp [s15, d0, d3, i2]
  rw [if_neg i1, if_neg i2]
  by_cases i3 : idxS (dSts l) s < 0
  · simp [s15, d0, d3, i1, i2, hi, i3]
  · simp [s15, d0, d3, i1, i2, hi, i3]

theorem rtype_ok (wl lim : Nat) (l : AV) (s : List UInt8) (d : Int) (st : Store) (hl : isSts l = true) (hn : (dSts l).length < 1000000000) :
    (orcL S).call wl lim 16 [l, .agg [.str s, .int .i64 d]] st = some (.tup [.agg (typeT (dSts l) s d).1.cells, .bool (typeT (dSts l) s d).2], st) := by
  have h1 := isSl_St hl
  have h2 := isSts_vw hl
  have h3 := rowsL_St hl
  refine call_pure (sf := s16) rfl rfl (by simp [pure_sl h1]) rfl (by simp [AV.isPure, AV.allPure]) ?_
  by_cases d0 : d < 0
  · rw [typeT_1 (.inl d0)]
    simp [s16, d0]
  by_cases d3 : 3 < d
  · rw [typeT_1 (.inr d3)]
    simp [s16, d0, d3]
  have hd : ¬ (d < 0 ∨ 3 < d) := by omega
  unfold typeT
  rw [if_neg hd]
  by_cases i1 : s = [105, 110, 116]
  · simp [s16, d0, d3, i1]
  by_cases i2 : s = [98, 111, 111, 108]
  · simp [s16, d0, d3, i2]
  rw [if_neg i1, if_neg i2]
  simp [s16, d0, d3, i1, i2]
  refine W_loopI s16_l0.eq_1 (fun k : Nat => ⟨[(0, .val l), (3, .fp 0 0), (4, .fp 1 0), (6, .val (.int .i64 k))], [[.str s, .int .i64 d], [.int .i64 0, .int .i64 0, .int .i64 0]], []⟩)
    (fun k => k ≤ (dSts l).length ∧ nope (fun x => decide (x = s)) (dSts l) k) (fun k => (dSts l).length - k) 0 (by simp) ⟨by simp, nope_zero⟩ ?_
  rintro k ⟨hk, hp⟩ ih
  by_cases hlt : k < (dSts l).length
  · have hw : IntKind.i64.wrap ((k : Int) + 1) = ((k + 1 : Nat) : Int) := by rw [wrap64] <;> omega
    by_cases e : (dSts l)[k] = s
    · have hi := idxS_at hp hlt e
      have h0 : ¬ ((k : Int) < 0) := by omega
      simp [hl, h2, h3, hlt, e, hi, h0, W_draw0, noBoxes]
    · simp [hl, h2, h3, hlt, e, hw, W_draw0, noBoxes]
      exact ih (k + 1) ⟨by omega, nope_succ hp hlt (by simpa using e)⟩ (by omega)
  · have hkl : k = (dSts l).length := by omega
    have hi := idxS_none (hkl ▸ hp)
    simp [hl, h2, h3, hlt, hi]

theorem ref_ok (wl lim : Nat) (t : T3) (st : Store) : (orcL S).call wl lim 17 [.agg t.cells] st = some (.bool (refT t), st) := by
  refine call_pure (sf := s17) rfl rfl (by simp) rfl (by simp) ?_
  unfold refT
  by_cases b : t.b = 3
  · simp [s17, b]
  · simp [s17, b]
theorem rref_ok (wl lim : Nat) (t : T3) (st : Store) : (orcL S).call wl lim 18 [.agg t.cells] st = some (.bool (refT t), st) := by
  refine call_pure (sf := s18) rfl rfl (by simp) rfl (by simp) ?_
  unfold refT
  by_cases b : t.b = 3
  · simp [s18, b]
  · simp [s18, b]

theorem law_types (l : AV) (s : List UInt8) (d : Int) (t : T3) (hl : isSts l = true) : (orcL S).call 0 0 5 [l, .agg [.str s, .int .i64 d], .agg t.cells] [] = some (.bool true, []) := by
  have h1 := isSl_St hl
  have h2 := isSts_vw hl
  have h3 := rowsL_St hl
  refine call_pure (sf := s5) rfl rfl (by simp [pure_sl h1, AV.allPure, AV.isPure]) rfl (by simp) ?_
  by_cases h : (30 : Int) < ((dSts l).length : Int)
  · simp [s5, h1, h2, h3, h]
  · have e1 := type_ok 0 0 l s d [] hl (by omega)
    have e2 := rtype_ok 0 0 l s d [] hl (by omega)
    have r1 := fun t => ref_ok 0 0 t []
    have r2 := fun t => rref_ok 0 0 t []
    generalize typeT (dSts l) s d = z at *
    obtain ⟨u, o⟩ := z
    have e1t := r1 t
    have e2t := r2 t
    have e1u := r1 u
    have e2u := r2 u
    simp only [T3.cells] at e1 e2 e1t e2t e1u e2u
    cases o with
    | false => simp [s5, h1, h2, h3, h, e1, e2, e1t, e2t, known0, W_drawB, boxOk, SOp.newBox, noFp]
    | true => simp [s5, h1, h2, h3, h, e1, e2, e1t, e2t, e1u, e2u, known0, W_drawB, boxOk, SOp.newBox, noFp]
end U7

namespace U7
open Ax Go Code7 V7
set_option maxRecDepth 100000
set_option maxHeartbeats 4000000

/-- What a maker holds: names, the first fault. -/
def fE (f : Option Int) : Int := match f with | some _ => 3 | none => 0
def fX (f : Option Int) : Int := match f with | some x => x | none => 0
@[simp] def mk (rl : AV) (f : Option Int) : AObj := .rows 0 3 [[rl, .int .i64 (fE f), .int .i64 (fX f)]]

theorem fail_ok (lim : Nat) (a : Int) (rl : AV) (f : Option Int) (r : Store) :
    (orcL S).call 0 lim 34 [.ptr 0 0 0 0, .int .i64 a] (mk rl f :: r) = some (.tup [], mk rl (orF f (some a)) :: r) := by
  refine call_run (sf := s34) rfl rfl rfl ?_
  cases f with
  | none => simp [s34, fE, fX, orF, mayWrite, paste, cut, AV.allPure, AV.isPure]
  | some x => simp [s34, fE, fX, orF, cut, AV.allPure, AV.isPure]

theorem typed_ok (lim : Nat) (s : List UInt8) (d a : Int) (rl : AV) (f : Option Int) (r : Store) (hl : isSts rl.view = true) (hn : (dSts rl).length < 1000000000) :
    (orcL S).call 0 lim 46 [.ptr 0 0 0 0, .agg [.str s, .int .i64 d], .int .i64 a] (mk rl f :: r) = some (.agg (typeT (dSts rl) s d).1.cells, mk rl (if (typeT (dSts rl) s d).2 then f else orF f (some a)) :: r) := by
  have h1 : isSl rl = true := by simpa using isSl_St hl
  have e1 := fun wl lim st => type_ok wl lim rl.view s d st hl (by simpa using hn)
  have e2 := fun lim => fail_ok lim a rl f r
  simp only [dSts_view] at e1
  refine call_run (sf := s46) rfl rfl rfl ?_
  generalize typeT (dSts rl) s d = z at *
  obtain ⟨u, o⟩ := z
  simp only [T3.cells] at e1
  simp only [mk] at e2
  cases o with
  | true => simp [s46, cut, e1, W_drawB, boxOk, SOp.newBox, noFp, AV.allPure, AV.isPure]
  | false => simp [s46, cut, e1, e2, W_drawB, boxOk, SOp.newBox, noFp, AV.allPure, AV.isPure]

theorem contains_ok (wl lim : Nat) (l : AV) (s : List UInt8) (st : Store) (hl : isSts l = true) (hn : (dSts l).length < 1000000000) :
    (orcL S).call wl lim 45 [l, .str s] st = some (.bool (decide (0 ≤ idxS (dSts l) s)), st) := by
  have h1 := isSl_St hl
  have h2 := isSts_vw hl
  have e := index_ok 0 0 l s [] hl hn
  refine call_pure (sf := s45) rfl rfl (by simp [pure_sl h1]) rfl (by simp) ?_
  simp [s45, e]

/-! ### Names that were met: a map's entries -/
def ents (ks : List (List UInt8)) : List (AV × AV) := ks.map fun s => (.str s, .agg [])
theorem find_ents (s : List UInt8) : ∀ ks, findV .str (.str s) (ents ks) = some (if s ∈ ks then some (.agg []) else none)
  | [] => rfl
  | a :: ks => by
    have ih := find_ents s ks
    simp only [ents] at ih
    simp only [ents, List.map_cons, findV, eqS]
    by_cases h : a = s
    · simp [h]
    · have : (s == a) = false := beq_eq_false_iff_ne.2 fun e => h e.symm
      have h' : ¬ s = a := fun e => h e.symm
      rw [this]
      simp [ih, h']
def addK (ks : List (List UInt8)) (s : List UInt8) : List (List UInt8) := if s ∈ ks then ks else ks ++ [s]
theorem put_ents (s : List UInt8) : ∀ ks, putV .str (.str s) (.agg []) (ents ks) = some (ents (addK ks s))
  | [] => rfl
  | a :: ks => by
    have ih := put_ents s ks
    simp only [ents] at ih
    simp only [ents, List.map_cons, putV, eqS]
    by_cases h : a = s
    · simp [h, addK]
    · have : (s == a) = false := beq_eq_false_iff_ne.2 fun e => h e.symm
      have h' : ¬ s = a := fun e => h e.symm
      rw [this]
      simp only [ih]
      by_cases hm : s ∈ ks
      · simp [addK, hm]
      · simp [addK, hm, h']
theorem mem_addK (ks : List (List UInt8)) (s t : List UInt8) : t ∈ addK ks s ↔ t ∈ ks ∨ t = s := by
  unfold addK
  split
  · constructor
    · exact .inl
    · rintro (h | rfl) <;> assumption
  · simp

@[simp] theorem a_makeMap {wl lim : Nat} {st : Store} {bx : Boxes} : act0 wl lim .makeMap [] st bx = some (.val (.map st.length), st ++ [.map []], bx) := rfl
theorem a_upd {lim : Nat} {o : AObj} {r : Store} {bx : Boxes} {ks : List (List UInt8)} (s : List UInt8) :
    act0 0 lim (.mapUpdate .str) [.val (.map (r.length + 1)), .val (.str s), .val (.agg [])] (o :: (r ++ [.map (ents ks)])) bx = some (.none, o :: (r ++ [.map (ents (addK ks s))]), bx) := by
  simp [act0, isKey, mayWrite, AV.allPure, AV.isPure, AV.view, AV.viewL, put_ents]
theorem a_look {lim : Nat} {o : AObj} {r : Store} {bx : Boxes} {ks : List (List UInt8)} (s : List UInt8) :
    act0 0 lim (.lookup .str (.agg []) true) [.val (.map (r.length + 1)), .val (.str s)] (o :: (r ++ [.map (ents ks)])) bx = some (.val (.tup [.agg [], .bool (decide (s ∈ ks))]), o :: (r ++ [.map (ents ks)]), bx) := by
  simp only [act0, List.getElem?_cons_succ, isKey, if_true]
  by_cases h : s ∈ ks <;> simp [h, find_ents]
theorem firstB_succ {α : Type} {bad : List α → α → Option Int} {l : List α} {k : Nat} (h : k < l.length) : firstB bad l (k + 1) = orF (firstB bad l k) (bad (l.take k) l[k]) := by
  simp [firstB, h]
theorem orF_assoc (a b c : Option Int) : orF (orF a b) c = orF a (orF b c) := by cases a <;> rfl
theorem orF_none (a : Option Int) : orF a none = a := by cases a <;> rfl
theorem orF_two (a : Option Int) (x : Int) : orF (orF a (some x)) (some x) = orF a (some x) := by cases a <;> rfl
theorem fldRows_succ {rs : List (List UInt8)} {l : List PD} {k : Nat} (h : k < l.length) : fldRows rs (l.take (k + 1)) = fldRows rs (l.take k) ++ [fldRow rs l[k]] := by
  simp only [fldRows, List.take_succ_eq_append_getElem h, List.map_append, List.map_cons, List.map_nil]

/-- The fields of one, or what a function is handed. -/
theorem fields_ok (lim : Nat) (l : AV) (rl : AV) (f : Option Int) (r : Store) (hl : isSts rl.view = true) (hn : (dSts rl).length < 1000000000) (hp : isPs l = true) (hpn : (dPs l).length < 1000000000) :
    (orcL S).call 0 lim 30 [.ptr 0 0 0 0, l] (mk rl f :: r) = some (mkL 4 (fldRows (dSts rl) (dPs l)), mk rl (orF f (firstB (badP (dSts rl)) (dPs l) (dPs l).length)) :: r) := by
  have p1 := isSl_P hp
  have p2 := isPs_vw hp
  have p3 := rowsL_P hp
  have e1 := fun lim s d a f r => typed_ok lim s d a rl f r hl hn
  have e2 := fun lim a f r => fail_ok lim a rl f r
  simp only [T3.cells, mk] at e1 e2
  refine call_run (sf := s30) rfl rfl rfl ?_
  simp [s30, p1, p2, p3]
  refine W_loopI s30_l0.eq_1 (fun q : Nat × List (List UInt8) × List AV => ⟨[(0, .val (.ptr 0 0 0 0)), (5, .val (mkL 4 (fldRows (dSts rl) ((dPs l).take q.1)))), (6, .val (.map (r.length + 1))), (12, .val l), (13, .val (.int .i64 (dPs l).length)), (14, .val (.int .i64 q.1))], [q.2.2, []],
      mk rl (orF f (firstB (badP (dSts rl)) (dPs l) q.1)) :: (r ++ [.map (ents q.2.1)])⟩)
    (fun q => q.1 ≤ (dPs l).length ∧ ∀ s, s ∈ q.2.1 ↔ ((dPs l).take q.1).any (fun p => decide (p.name = s)) = true) (fun q => (dPs l).length - q.1) ((0, [], []) : Nat × List (List UInt8) × List AV) (by simp [fldRows, mkL_nil, firstB, orF_none, ents]) (by simp) ?_
  rintro ⟨k, ks, bb⟩ ⟨hk, hks⟩ ih
  simp only at hk hks ih
  by_cases hlt : k < (dPs l).length
  · have hw : IntKind.i64.wrap ((k : Int) + 1) = ((k + 1 : Nat) : Int) := by rw [wrap64] <;> omega
    have hb := firstB_succ (bad := badP (dSts rl)) hlt
    have hr := fldRows_succ (rs := dSts rl) hlt
    have hlen : (fldRows (dSts rl) ((dPs l).take k)).length = k := by simp [fldRows]; omega
    have ha : appV 4 40 (mkL 4 (fldRows (dSts rl) ((dPs l).take k))) [fldRow (dSts rl) (dPs l)[k]] = some (mkL 4 (fldRows (dSts rl) ((dPs l).take (k + 1)))) := by
      rw [appV_mk (by rfl) (by rw [hlen]; simp [room]; omega), hr]
    have hks' : ∀ s, s ∈ addK ks (dPs l)[k].name ↔ ((dPs l).take (k + 1)).any (fun p => decide (p.name = s)) = true := by
      intro s
      rw [mem_addK, hks, List.take_succ_eq_append_getElem hlt, List.any_append]
      simp only [List.any_cons, List.any_nil, Bool.or_false, Bool.or_eq_true, decide_eq_true_eq]
      exact or_congr Iff.rfl eq_comm
    have hdup := hks (dPs l)[k].name
    generalize hq : (dPs l)[k] = p at *
    simp only [fldRow, T3.cells] at ha
    have hi := ih (k + 1, addK ks p.name, p.cells) ⟨by simp; omega, hks'⟩ (by simp; omega)
    simp only [hb, PD.cells] at hi
    have lk := fun lim o bx => a_look (lim := lim) (o := o) (r := r) (bx := bx) (ks := ks) p.name
    have up := fun lim o bx => a_upd (lim := lim) (o := o) (r := r) (bx := bx) (ks := ks) p.name
    by_cases hd : p.name ∈ ks
    · have hbad : badP (dSts rl) ((dPs l).take k) p = some p.at_ := by
        unfold badP; rw [hdup.1 hd]; rfl
      rw [hbad, ← orF_assoc] at hi
      have hd' : decide (p.name ∈ ks) = true := decide_eq_true hd
      cases ho : (typeT (dSts rl) p.on p.od).2 with
      | true =>
        simp [p2, p3, hp, hlt, PD.cells, hw, hq, lk, up, hd', e1, e2, ho, ha, W_drawB, boxOk, SOp.newBox, noFp]
        exact hi
      | false =>
        simp [p2, p3, hp, hlt, PD.cells, hw, hq, lk, up, hd', e1, e2, ho, orF_two, ha, W_drawB, boxOk, SOp.newBox, noFp]
        exact hi
    · have hd' : decide (p.name ∈ ks) = false := decide_eq_false hd
      have hany : ((dPs l).take k).any (fun q => decide (q.name = p.name)) = false := by
        cases e : ((dPs l).take k).any (fun q => decide (q.name = p.name)) with
        | false => rfl
        | true => exact absurd (hdup.2 e) hd
      cases ho : (typeT (dSts rl) p.on p.od).2 with
      | true =>
        have hbad : badP (dSts rl) ((dPs l).take k) p = none := by unfold badP; rw [hany, ho]; rfl
        rw [hbad, orF_none] at hi
        simp [p2, p3, hp, hlt, PD.cells, hw, hq, lk, up, hd', e1, ho, ha, W_drawB, boxOk, SOp.newBox, noFp]
        exact hi
      | false =>
        have hbad : badP (dSts rl) ((dPs l).take k) p = some p.at_ := by unfold badP; rw [hany, ho]; rfl
        rw [hbad, ← orF_assoc] at hi
        simp [p2, p3, hp, hlt, PD.cells, hw, hq, lk, up, hd', e1, ho, ha, W_drawB, boxOk, SOp.newBox, noFp]
        exact hi
  · have hkl : k = (dPs l).length := by omega
    simp [hkl]
end U7

namespace U7
open Ax Go Code7 V7
set_option maxRecDepth 100000
set_option maxHeartbeats 4000000

def sts (l : List (List UInt8)) : List (List AV) := l.map fun s => [.str s]
theorem dSts_mk (l : List (List UInt8)) : dSts (mkL 1 (sts l)) = l := by simp [dSts, sts, List.map_map, Function.comp_def, dSt]
theorem isSts_mk (l : List (List UInt8)) : isSts (mkL 1 (sts l)).view = true := by
  have h1 : isSz 1 (mkL 1 (sts l)).view = true := by
    rw [isSz_view, isSz_mk]
    simp [fits, sts]
  simp only [isSts, isRows, notOwn_view, h1, rowsL_view, rowsL_mk, Bool.true_and, List.all_eq_true]
  intro r hr
  obtain ⟨s, _, rfl⟩ := List.mem_map.1 hr
  rfl
theorem idxS_mem (l : List (List UInt8)) (s : List UInt8) : 0 ≤ idxS l s ↔ s ∈ l := by
  unfold idxS
  cases e : l.findIdx? fun x => decide (x = s) with
  | none =>
    rw [List.findIdx?_eq_none_iff] at e
    constructor
    · intro h; exact absurd h (by decide)
    · intro h; have := e s h; simp at this
  | some k =>
    obtain ⟨hk, h1, _⟩ := List.findIdx?_eq_some_iff_getElem.1 e
    constructor
    · intro _
      have : l[k] = s := by simpa using h1
      exact this ▸ List.getElem_mem hk
    · intro _; show (0 : Int) ≤ (k : Int); omega

theorem a_take {lim : Nat} {rl : AV} {e x : AV} {r : Store} {bx : Boxes} (h : isSl rl = true) :
    act0 0 lim (.load false 1 true) [.val (.ptr 0 0 0 0)] (.rows 0 3 [[rl, e, x]] :: r) bx = some (.val rl, .rows 0 3 [[rl.took, e, x]] :: r, bx) := by
  cases rl <;> simp [isSl] at h <;> simp [act0, readP, cut, writeP, mayWrite, AV.took, AV.allPure, AV.isPure, paste, oneOrAgg]

/-- A record behind others: is its name new? -/
def badR (before : List CR) (x : CR) : Option Int := if before.any (fun q => decide (q.name = x.name)) then some x.at_ else none
/-- What is wrong first with a record's fields. -/
def badF (rs : List (List UInt8)) (_ : List CR) (x : CR) : Option Int := firstB (badP rs) (dPs x.fields) (dPs x.fields).length
def recRow (rs : List (List UInt8)) (x : CR) : List AV := [.str x.name, (mkL 4 (fldRows rs (dPs x.fields))).view]
def recRows (rs : List (List UInt8)) (l : List CR) : List (List AV) := l.map (recRow rs)

theorem records_ok (lim : Nat) (l : AV) (f : Option Int) (r : Store) (hp : isCRs l = true) (hpn : (dCRs l).length < 1000000000) (hfn : ∀ x ∈ dCRs l, (dPs x.fields).length < 1000000000) :
    (orcL S).call 0 lim 29 [.ptr 0 0 0 0, l] (mk .nilSl f :: r) = some (mkL 2 (recRows (recN (dCRs l)) (dCRs l)),
      mk (mkL 1 (sts (recN (dCRs l)))) (orF (orF f (firstB badR (dCRs l) (dCRs l).length)) (firstB (badF (recN (dCRs l))) (dCRs l) (dCRs l).length)) :: r) := by
  have p1 := isSl_CR hp
  have p2 := isCRs_vw hp
  have p3 := rowsL_CR hp
  have e2 := fun lim a rl f r => fail_ok lim a rl f r
  simp only [mk] at e2
  refine call_run (sf := s29) rfl rfl rfl ?_
  simp [s29, p1, p2, p3]
  refine W_loopI s29_l0.eq_1 (fun q : Nat × List AV => ⟨[(0, .val (.ptr 0 0 0 0)), (1, .val l), (10, .val l), (11, .val (.int .i64 (dCRs l).length)), (12, .val (.int .i64 q.1))], [q.2, []],
      mk (mkL 1 (sts (recN ((dCRs l).take q.1)))) (orF f (firstB badR (dCRs l) q.1)) :: r⟩)
    (fun q => q.1 ≤ (dCRs l).length) (fun q => (dCRs l).length - q.1) ((0, []) : Nat × List AV) (by simp [recN, sts, mkL_nil, firstB, orF_none]) (by simp) ?_
  rintro ⟨k, bb⟩ hk ih
  simp only at hk ih
  by_cases hlt : k < (dCRs l).length
  · have hw : IntKind.i64.wrap ((k : Int) + 1) = ((k + 1 : Nat) : Int) := by rw [wrap64] <;> omega
    have hb := firstB_succ (bad := badR) hlt
    have hF := isCRs_get hp _ (List.getElem_mem hlt)
    have hFs := isSl_P hF
    have hFv := isPs_vw hF
    have hct := fun wl lim s st => contains_ok wl lim (mkL 1 (sts (recN ((dCRs l).take k)))).view s st (isSts_mk _) (by simp [dSts_mk, recN]; omega)
    simp only [dSts_view, dSts_mk] at hct
    have hsl : isSl (mkL 1 (sts (recN ((dCRs l).take k)))) = true := isSl_mk
    have ha : appV 1 16 (mkL 1 (sts (recN ((dCRs l).take k)))) [[.str (dCRs l)[k].name]] = some (mkL 1 (sts (recN ((dCRs l).take (k + 1))))) := by
      rw [appV_mk (by rfl) (by simp [sts, recN, room]; omega)]
      simp only [recN, sts, List.take_succ_eq_append_getElem hlt, List.map_append, List.map_cons, List.map_nil]
    have hi := ih (k + 1, (dCRs l)[k].cells) (by simp; omega) (by simp; omega)
    simp only [hb] at hi
    have hmem : (dCRs l)[k].name ∈ recN ((dCRs l).take k) ↔ ((dCRs l).take k).any (fun q => decide (q.name = (dCRs l)[k].name)) = true := by
      simp only [recN, List.mem_map, List.any_eq_true, decide_eq_true_eq]
    generalize hq : (dCRs l)[k] = p at *
    simp only [CR.cells] at hi
    have tk := fun lim e x r bx => a_take (lim := lim) (e := e) (x := x) (r := r) (bx := bx) hsl
    by_cases hd : p.name ∈ recN ((dCRs l).take k)
    · have hbad : badR ((dCRs l).take k) p = some p.at_ := by
        unfold badR; rw [hmem.1 hd]; rfl
      rw [hbad, ← orF_assoc] at hi
      have hd' : decide (0 ≤ idxS (recN ((dCRs l).take k)) p.name) = true := decide_eq_true ((idxS_mem _ _).2 hd)
      simp [p2, p3, hp, hlt, CR.cells, hw, hq, hFs, hFv, hct, hd', e2, ha, tk, W_drawB, boxOk, SOp.newBox, noFp]
      exact hi
    · have hbad : badR ((dCRs l).take k) p = none := by
        unfold badR
        cases e : ((dCRs l).take k).any (fun q => decide (q.name = p.name)) with
        | false => rfl
        | true => exact absurd (hmem.2 e) hd
      rw [hbad, orF_none] at hi
      have hd' : decide (0 ≤ idxS (recN ((dCRs l).take k)) p.name) = false := decide_eq_false fun h => hd ((idxS_mem _ _).1 h)
      simp [p2, p3, hp, hlt, CR.cells, hw, hq, hFs, hFv, hct, hd', ha, tk, W_drawB, boxOk, SOp.newBox, noFp]
      exact hi
  · have hkl : k = (dCRs l).length := by omega
    subst hkl
    obtain ⟨g, hg⟩ : ∃ g, g = orF f (firstB badR (dCRs l) (dCRs l).length) := ⟨_, rfl⟩
    obtain ⟨rs, hrs⟩ : ∃ rs, rs = recN (dCRs l) := ⟨_, rfl⟩
    have hrl : rs.length < 1000000000 := by rw [hrs]; simpa [recN] using hpn
    simp only [← hg, ← hrs, List.take_length]
    simp [p1, p2, p3]
    refine W_loopI s29_l1.eq_1 (fun q : Nat × List AV => ⟨[(0, .val (.ptr 0 0 0 0)), (7, .val (mkL 2 (recRows rs ((dCRs l).take q.1)))), (39, .val l), (40, .val (.int .i64 (dCRs l).length)), (41, .val (.int .i64 q.1))], [bb, q.2],
        mk (mkL 1 (sts rs)) (orF g (firstB (badF rs) (dCRs l) q.1)) :: r⟩)
      (fun q => q.1 ≤ (dCRs l).length) (fun q => (dCRs l).length - q.1) ((0, []) : Nat × List AV) (by simp [recRows, mkL_nil, firstB, orF_none]) (by simp) ?_
    rintro ⟨k, bb2⟩ hk ih
    simp only at hk ih
    by_cases hlt : k < (dCRs l).length
    · have hw : IntKind.i64.wrap ((k : Int) + 1) = ((k + 1 : Nat) : Int) := by rw [wrap64] <;> omega
      have hb := firstB_succ (bad := badF rs) hlt
      have hF := isCRs_get hp _ (List.getElem_mem hlt)
      have hFs := isSl_P hF
      have hFv := isPs_vw hF
      have hFn := hfn _ (List.getElem_mem hlt)
      have e3 := fun lim f r => fields_ok lim (dCRs l)[k].fields (mkL 1 (sts rs)) f r (isSts_mk _) (by rw [dSts_mk]; exact hrl) hF hFn
      simp only [dSts_mk, mk] at e3
      have ha : appV 2 40 (mkL 2 (recRows rs ((dCRs l).take k))) [recRow rs (dCRs l)[k]] = some (mkL 2 (recRows rs ((dCRs l).take (k + 1)))) := by
        rw [appV_mk (by rfl) (by simp [recRows, room]; omega)]
        simp only [recRows, List.take_succ_eq_append_getElem hlt, List.map_append, List.map_cons, List.map_nil]
      have hi := ih (k + 1, (dCRs l)[k].cells) (by simp; omega) (by simp; omega)
      simp only [hb, badF, ← orF_assoc] at hi
      generalize hq : (dCRs l)[k] = p at *
      simp only [CR.cells] at hi
      simp only [recRow] at ha
      simp [p2, p3, hp, hlt, CR.cells, hw, hq, hFs, hFv, e3, ha, W_drawB, boxOk, SOp.newBox, noFp]
      exact hi
    · have hkl : k = (dCRs l).length := by omega
      subst hkl
      simp
end U7

namespace U7
open Ax Go Code7 V7
set_option maxRecDepth 100000
set_option maxHeartbeats 4000000

/-- A function's result, as it is known. -/
def resT (rs : List (List UInt8)) (x : FN) : T3 := if x.has then (typeT rs x.on x.od).1 else T0
def badD (before : List FN) (x : FN) : Option Int := if before.any (fun q => decide (q.name = x.name)) then some x.at_ else none
def badT (rs : List (List UInt8)) (x : FN) : Option Int := if x.has && !(typeT rs x.on x.od).2 then some x.at_ else none
/-- What is wrong first with a function behind others. -/
def badS (rs : List (List UInt8)) (before : List FN) (x : FN) : Option Int := orF (orF (badD before x) (firstB (badP rs) (dPs x.params) (dPs x.params).length)) (badT rs x)
def sigRow (rs : List (List UInt8)) (x : FN) : List AV := [.str x.name, (mkL 4 (fldRows rs (dPs x.params))).view, .bool x.has, .int .i64 (resT rs x).b, .int .i64 (resT rs x).r, .int .i64 (resT rs x).d]
/-- Likewise, as it is made. -/
def sigBox (rs : List (List UInt8)) (x : FN) : List AV := [.str x.name, mkL 4 (fldRows rs (dPs x.params)), .bool x.has, .int .i64 (resT rs x).b, .int .i64 (resT rs x).r, .int .i64 (resT rs x).d]
def sigRows (rs : List (List UInt8)) (l : List FN) : List (List AV) := l.map (sigRow rs)

theorem sigs_ok (lim : Nat) (l rl : AV) (f : Option Int) (r : Store) (hl : isSts rl.view = true) (hn : (dSts rl).length < 1000000000) (hp : isFNs l = true) (hpn : (dFNs l).length < 1000000000) (hfn : ∀ x ∈ dFNs l, (dPs x.params).length < 1000000000) :
    (orcL S).call 0 lim 31 [.ptr 0 0 0 0, l] (mk rl f :: r) = some (mkL 6 (sigRows (dSts rl) (dFNs l)), mk rl (orF f (firstB (badS (dSts rl)) (dFNs l) (dFNs l).length)) :: r) := by
  have p1 := isSl_FN hp
  have p2 := isFNs_vw hp
  have p3 := rowsL_FN hp
  have e1 := fun lim s d a f r => typed_ok lim s d a rl f r hl hn
  have e2 := fun lim a f r => fail_ok lim a rl f r
  simp only [T3.cells, mk] at e1 e2
  refine call_run (sf := s31) rfl rfl rfl ?_
  simp [s31, p1, p2, p3]
  refine W_loopI s31_l0.eq_1 (fun q : Nat × List (List UInt8) × List AV × List AV => ⟨[(0, .val (.ptr 0 0 0 0)), (5, .val (mkL 6 (sigRows (dSts rl) ((dFNs l).take q.1)))), (6, .val (.map (r.length + 1))), (13, .val l), (14, .val (.int .i64 (dFNs l).length)), (15, .val (.int .i64 q.1))], [q.2.2.1, [], q.2.2.2],
      mk rl (orF f (firstB (badS (dSts rl)) (dFNs l) q.1)) :: (r ++ [.map (ents q.2.1)])⟩)
    (fun q => q.1 ≤ (dFNs l).length ∧ ∀ s, s ∈ q.2.1 ↔ ((dFNs l).take q.1).any (fun p => decide (p.name = s)) = true) (fun q => (dFNs l).length - q.1) ((0, [], [], []) : Nat × List (List UInt8) × List AV × List AV) (by simp [sigRows, mkL_nil, firstB, orF_none, ents]) (by simp) ?_
  rintro ⟨k, ks, bb, bb2⟩ ⟨hk, hks⟩ ih
  simp only at hk hks ih
  by_cases hlt : k < (dFNs l).length
  · have hw : IntKind.i64.wrap ((k : Int) + 1) = ((k + 1 : Nat) : Int) := by rw [wrap64] <;> omega
    have hb := firstB_succ (bad := badS (dSts rl)) hlt
    have hG := isFNs_get hp _ (List.getElem_mem hlt)
    have hFs := isSl_P hG.1
    have hFv := isPs_vw hG.1
    have hBs := hG.2.2
    have hBv := view_notOwn hG.2.1 hG.2.2
    have hFn := hfn _ (List.getElem_mem hlt)
    have e3 := fun lim f r => fields_ok lim (dFNs l)[k].params rl f r hl hn hG.1 hFn
    simp only [mk] at e3
    have ha : appV 6 72 (mkL 6 (sigRows (dSts rl) ((dFNs l).take k))) [sigRow (dSts rl) (dFNs l)[k]] = some (mkL 6 (sigRows (dSts rl) ((dFNs l).take (k + 1)))) := by
      rw [appV_mk (by rfl) (by simp [sigRows, room]; omega)]
      simp only [sigRows, List.take_succ_eq_append_getElem hlt, List.map_append, List.map_cons, List.map_nil]
    have hks' : ∀ s, s ∈ addK ks (dFNs l)[k].name ↔ ((dFNs l).take (k + 1)).any (fun p => decide (p.name = s)) = true := by
      intro s
      rw [mem_addK, hks, List.take_succ_eq_append_getElem hlt, List.any_append]
      simp only [List.any_cons, List.any_nil, Bool.or_false, Bool.or_eq_true, decide_eq_true_eq]
      exact or_congr Iff.rfl eq_comm
    have hdup := hks (dFNs l)[k].name
    generalize hq : (dFNs l)[k] = p at *
    have hi := ih (k + 1, addK ks p.name, p.cells, sigBox (dSts rl) p) ⟨by simp; omega, hks'⟩ (by simp; omega)
    simp only [hb, badS, ← orF_assoc, FN.cells] at hi
    have lk := fun lim o bx => a_look (lim := lim) (o := o) (r := r) (bx := bx) (ks := ks) p.name
    have up := fun lim o bx => a_upd (lim := lim) (o := o) (r := r) (bx := bx) (ks := ks) p.name
    have hD : badD ((dFNs l).take k) p = if p.name ∈ ks then some p.at_ else none := by
      unfold badD
      by_cases hd : p.name ∈ ks
      · rw [if_pos hd, if_pos (hdup.1 hd)]
      · rw [if_neg hd, if_neg fun h => hd (hdup.2 h)]
    rw [hD] at hi
    by_cases hd : p.name ∈ ks
    · have hd' : decide (p.name ∈ ks) = true := decide_eq_true hd
      rw [if_pos hd] at hi
      cases hh : p.has with
      | false =>
        simp [hh, badT, sigRow, sigBox, resT, orF_none] at hi ha
        simp [p2, p3, hp, hlt, FN.cells, hw, hq, lk, up, hd', e2, e3, hFs, hFv, hBs, hBv, hh, ha, W_drawB, boxOk, SOp.newBox, noFp]
        exact hi
      | true =>
        cases ho : (typeT (dSts rl) p.on p.od).2 with
        | true =>
          simp [hh, badT, sigRow, sigBox, resT, orF_none, ho] at hi ha
          simp [p2, p3, hp, hlt, FN.cells, hw, hq, lk, up, hd', e1, e2, e3, hFs, hFv, hBs, hBv, hh, ho, ha, W_drawB, boxOk, SOp.newBox, noFp]
          exact hi
        | false =>
          simp [hh, badT, sigRow, sigBox, resT, ho] at hi ha
          simp [p2, p3, hp, hlt, FN.cells, hw, hq, lk, up, hd', e1, e2, e3, hFs, hFv, hBs, hBv, hh, ho, ha, W_drawB, boxOk, SOp.newBox, noFp]
          exact hi
    · have hd' : decide (p.name ∈ ks) = false := decide_eq_false hd
      rw [if_neg hd, orF_none] at hi
      cases hh : p.has with
      | false =>
        simp [hh, badT, sigRow, sigBox, resT, orF_none] at hi ha
        simp [p2, p3, hp, hlt, FN.cells, hw, hq, lk, up, hd', e3, hFs, hFv, hBs, hBv, hh, ha, W_drawB, boxOk, SOp.newBox, noFp]
        exact hi
      | true =>
        cases ho : (typeT (dSts rl) p.on p.od).2 with
        | true =>
          simp [hh, badT, sigRow, sigBox, resT, orF_none, ho] at hi ha
          simp [p2, p3, hp, hlt, FN.cells, hw, hq, lk, up, hd', e1, e3, hFs, hFv, hBs, hBv, hh, ho, ha, W_drawB, boxOk, SOp.newBox, noFp]
          exact hi
        | false =>
          simp [hh, badT, sigRow, sigBox, resT, ho] at hi ha
          simp [p2, p3, hp, hlt, FN.cells, hw, hq, lk, up, hd', e1, e3, hFs, hFv, hBs, hBv, hh, ho, ha, W_drawB, boxOk, SOp.newBox, noFp]
          exact hi
  · have hkl : k = (dFNs l).length := by omega
    simp [hkl]

def nmain : List UInt8 := [109, 97, 105, 110]
def isMainT (x : FN) : Bool := decide (x.name = nmain) && decide (dPs x.params = []) && !x.has
theorem isMain_ok (wl lim : Nat) (rs : List (List UInt8)) (x : FN) (st : Store) : (orcL S).call wl lim 33 [.agg (sigRow rs x)] st = some (.bool (isMainT x), st) := by
  refine call_pure (sf := s33) rfl rfl (by simp [sigRow, AV.allPure, AV.isPure]) rfl (by simp) ?_
  unfold isMainT
  by_cases a : x.name = nmain
  · by_cases b : dPs x.params = []
    · simp [s33, sigRow, nmain, a, b, fldRows]
    · have b' : ¬ (dPs x.params).length = 0 := by simpa using b
      simp [s33, sigRow, nmain, a, b, b', fldRows]
  · simp only [nmain] at a
    simp [s33, sigRow, nmain, a]

def mainI (l : List FN) : Int := match l.findIdx? isMainT with
  | some k => k
  | none => -1
theorem indexF_ok (wl lim : Nat) (rs : List (List UInt8)) (l : List FN) (st : Store) (hn : l.length < 1000000000) :
    (orcL S).call wl lim 32 [(mkL 6 (sigRows rs l)).view, .fn 33 [] []] st = some (.int .i64 (mainI l), st) := by
  have hm := fun wl lim x st => isMain_ok wl lim rs x st
  have hz : isSz 6 (mkL 6 (sigRows rs l)).view = true := by rw [isSz_view, isSz_mk]; simp [fits, sigRows, sigRow]
  have hr : rowsL (mkL 6 (sigRows rs l)).view = l.map (sigRow rs) := by simp [sigRows]
  have hs := isSl_sz hz
  have hv : (mkL 6 (sigRows rs l)).view.view = (mkL 6 (sigRows rs l)).view := view_view _
  generalize (mkL 6 (sigRows rs l)).view = v at *
  have l6 : ∀ x, (sigRow rs x).length = 6 := fun _ => rfl
  have t6 : ∀ x, List.take 6 (sigRow rs x) = sigRow rs x := fun _ => rfl
  have v6 : ∀ x, AV.viewL (sigRow rs x) = sigRow rs x := by intro x; simp [sigRow, AV.viewL, AV.view]
  refine call_run (sf := s32) rfl (by simp [alone, s32]) rfl ?_
  simp [s32, hs, hr, hv]
  refine W_loopI s32_l0.eq_1 (fun q : Nat × Nat => ⟨[(0, .val v), (1, .val (.fn 33 [] [])), (7, .val (.int .i64 l.length)), (8, .val (.int .i64 q.1))], [], st⟩)
    (fun q => q.1 ≤ l.length ∧ nope isMainT l q.1) (fun q => l.length - q.1) ((0, 0) : Nat × Nat) (by simp) ⟨by simp, nope_zero⟩ ?_
  rintro ⟨k, b⟩ ⟨hk, hp⟩ ih
  simp only at hk hp ih
  by_cases hlt : k < l.length
  · have hw : IntKind.i64.wrap ((k : Int) + 1) = ((k + 1 : Nat) : Int) := by rw [wrap64] <;> omega
    have hmk := fun wl lim st => hm wl lim l[k] st
    cases e : isMainT l[k] with
    | true =>
      have hi : mainI l = k := by
        have : l.findIdx? isMainT = some k := by
          rw [List.findIdx?_eq_some_iff_getElem]
          exact ⟨hlt, e, fun j hj => by simp [hp j (by omega) hj]⟩
        unfold mainI; rw [this]
      simp [hz, hr, hv, hlt, hmk, e, hi, l6, t6, v6]
    | false =>
      simp [hz, hr, hv, hlt, hmk, e, hw, l6, t6, v6]
      exact ih (k + 1, 0) ⟨by simp; omega, nope_succ hp hlt e⟩ (by simp; omega)
  · have hkl : k = l.length := by omega
    have hi : mainI l = -1 := by
      have : l.findIdx? isMainT = none := by
        rw [List.findIdx?_eq_none_iff]
        intro x hx
        obtain ⟨j, hj, rfl⟩ := List.mem_iff_getElem.1 hx
        exact hp j hj (hkl ▸ hj)
      unfold mainI; rw [this]
    simp [hlt, hi]
end U7

namespace U7
open Ax Go Code7 V7
set_option maxRecDepth 100000
set_option maxHeartbeats 4000000

def zeroH : AV := .agg [.nilSl, .nilSl, .nilSl, .int .i64 0]
def headsV (p : GD) : AV := .agg [(mkL 2 (recRows (recN (dCRs p.recs)) (dCRs p.recs))).view, (mkL 4 (fldRows (recN (dCRs p.recs)) (dPs p.globals))).view, (mkL 6 (sigRows (recN (dCRs p.recs)) (dFNs p.funcs))).view, .int .i64 (mainI (dFNs p.funcs))]
/-- What is wrong first with the heads of a program. -/
def fault3 (p : GD) : Option Int := orF (orF (orF (orF none (firstB badR (dCRs p.recs) (dCRs p.recs).length)) (firstB (badF (recN (dCRs p.recs))) (dCRs p.recs) (dCRs p.recs).length)) (firstB (badP (recN (dCRs p.recs))) (dPs p.globals) (dPs p.globals).length))
  (firstB (badS (recN (dCRs p.recs))) (dFNs p.funcs) (dFNs p.funcs).length)
def faultH (p : GD) : Option Int := if mainI (dFNs p.funcs) < 0 then orF (fault3 p) (some 0) else fault3 p
def resH (p : GD) : AV := .tup [match faultH p with | some _ => zeroH | none => headsV p, .agg [.int .i64 (fE (faultH p)), .int .i64 (fX (faultH p))]]

structure GD.sm (p : GD) : Prop where
  recs : (dCRs p.recs).length < 1000000000
  fields : ∀ x ∈ dCRs p.recs, (dPs x.fields).length < 1000000000
  globals : (dPs p.globals).length < 1000000000
  funcs : (dFNs p.funcs).length < 1000000000
  params : ∀ x ∈ dFNs p.funcs, (dPs x.params).length < 1000000000

theorem make_ok (wl lim : Nat) (p : GD) (st : Store) (hp : p.ok) (hs : GD.sm p) : (orcL S).call wl lim 10 [.agg p.cells] st = some (resH p, st) := by
  have p1 := isSl_CR hp.recs
  have p2 := isCRs_vw hp.recs
  have g1 := isSl_P hp.globals
  have g2 := isPs_vw hp.globals
  have f1 := isSl_FN hp.funcs
  have f2 := isFNs_vw hp.funcs
  have hrn : (recN (dCRs p.recs)).length < 1000000000 := by simpa [recN] using hs.recs
  have er : ∀ lim r, (orcL S).call 0 lim 29 [.ptr 0 0 0 0, p.recs] (.rows 0 3 [[.nilSl, .int .i64 0, .int .i64 0]] :: r) = _ := fun lim r => records_ok lim p.recs none r hp.recs hs.recs hs.fields
  have eg := fun lim f r => fields_ok lim p.globals (mkL 1 (sts (recN (dCRs p.recs)))) f r (isSts_mk _) (by rw [dSts_mk]; exact hrn) hp.globals hs.globals
  have ef := fun lim f r => sigs_ok lim p.funcs (mkL 1 (sts (recN (dCRs p.recs)))) f r (isSts_mk _) (by rw [dSts_mk]; exact hrn) hp.funcs hs.funcs hs.params
  have ei := fun wl lim st => indexF_ok wl lim (recN (dCRs p.recs)) (dFNs p.funcs) st hs.funcs
  have e2 := fun lim a rl f r => fail_ok lim a rl f r
  simp only [dSts_mk, mk] at er eg ef e2
  refine call_pure (sf := s10) rfl rfl (by simp [GD.cells, AV.allPure, AV.isPure, p1, g1, f1]) rfl (by cases h : faultH p <;> simp [resH, h, zeroH, headsV, AV.isPure, AV.allPure]) ?_
  unfold resH faultH
  have hm3 : fault3 p = fault3 p := rfl
  conv at hm3 => lhs; unfold fault3
  generalize fault3 p = F at *
  by_cases hm : mainI (dFNs p.funcs) < 0
  · obtain ⟨y, hy⟩ : ∃ y, orF F (some 0) = some y := by cases F <;> exact ⟨_, rfl⟩
    simp [s10, GD.cells, p1, p2, g1, g2, f1, f2, er, eg, ef, ei, e2, hm, hm3, W_drawB, boxOk, SOp.newBox, noFp]
    simp [hy, fE, fX, zeroH, W_drawB, boxOk, SOp.newBox]
  · simp [s10, GD.cells, p1, p2, g1, g2, f1, f2, er, eg, ef, ei, hm, hm3, W_drawB, boxOk, SOp.newBox, noFp]
    cases F with
    | some y => simp [fE, fX, zeroH, W_drawB, boxOk, SOp.newBox]
    | none => simp [fE, fX, headsV, SOp.newBox]
end U7

namespace U7
open Ax Go Code7 V7
set_option maxRecDepth 100000
set_option maxHeartbeats 4000000

theorem eqI (n : Int) : (n == n) = true := by simp
theorem sameF_ok (wl lim : Nat) (rs : List (List UInt8)) (l : List PD) (st : Store) (hn : l.length < 1000000000) :
    (orcL S).call wl lim 38 [(mkL 4 (fldRows rs l)).view, (mkL 4 (fldRows rs l)).view] st = some (.bool true, st) := by
  have hz : isSz 4 (mkL 4 (fldRows rs l)).view = true := by rw [isSz_view, isSz_mk]; simp [fits, fldRows, fldRow]
  have hr : rowsL (mkL 4 (fldRows rs l)).view = l.map (fldRow rs) := by simp [fldRows]
  have hs := isSl_sz hz
  have hv : (mkL 4 (fldRows rs l)).view.view = (mkL 4 (fldRows rs l)).view := view_view _
  generalize (mkL 4 (fldRows rs l)).view = v at *
  refine call_pure (sf := s38) rfl rfl (by simp [pure_sl hs]) rfl (by simp) ?_
  simp [s38, hs, hr, hv]
  refine W_loopI s38_l0.eq_1 (fun k : Nat => ⟨[(0, .val v), (1, .val v), (5, .val (.int .i64 k))], [], []⟩)
    (fun k => k ≤ l.length) (fun k => l.length - k) 0 (by simp) (by simp) ?_
  intro k hk ih
  by_cases hlt : k < l.length
  · have hw : IntKind.i64.wrap ((k : Int) + 1) = ((k + 1 : Nat) : Int) := by rw [wrap64] <;> omega
    simp [hz, hs, hr, hv, hlt, hw, fldRow, W_draw0, noBoxes]
    exact ih (k + 1) (by omega) (by omega)
  · simp [hs, hr, hv, hlt]

theorem sameZ : (orcL S).call 0 0 12 [zeroH, zeroH] [] = some (.bool true, []) := by
  have h : says ((korc S 100).call 0 0 12 [zeroH, zeroH] []) = true := by kernel_rfl
  exact call_k (says_eq h)

theorem same_ok (wl lim : Nat) (p : GD) (st : Store) (hs : GD.sm p) : (orcL S).call wl lim 12 [headsV p, headsV p] st = some (.bool true, st) := by
  have c1 := fun rs l h => sameF_ok 0 0 rs l [] h
  unfold headsV
  generalize recN (dCRs p.recs) = rs
  have rz : isSz 2 (mkL 2 (recRows rs (dCRs p.recs))).view = true := by rw [isSz_view, isSz_mk]; simp [fits, recRows, recRow]
  have rr : rowsL (mkL 2 (recRows rs (dCRs p.recs))).view = (dCRs p.recs).map (recRow rs) := by simp [recRows]
  have rv : (mkL 2 (recRows rs (dCRs p.recs))).view.view = (mkL 2 (recRows rs (dCRs p.recs))).view := view_view _
  have r1 := isSl_sz rz
  have sz : isSz 6 (mkL 6 (sigRows rs (dFNs p.funcs))).view = true := by rw [isSz_view, isSz_mk]; simp [fits, sigRows, sigRow]
  have sr : rowsL (mkL 6 (sigRows rs (dFNs p.funcs))).view = (dFNs p.funcs).map (sigRow rs) := by simp [sigRows]
  have sv : (mkL 6 (sigRows rs (dFNs p.funcs))).view.view = (mkL 6 (sigRows rs (dFNs p.funcs))).view := view_view _
  have s1 := isSl_sz sz
  have gc := c1 rs (dPs p.globals) hs.globals
  have g1 : isSl (mkL 4 (fldRows rs (dPs p.globals))).view = true := by simp
  have gv : (mkL 4 (fldRows rs (dPs p.globals))).view.view = (mkL 4 (fldRows rs (dPs p.globals))).view := view_view _
  generalize (mkL 2 (recRows rs (dCRs p.recs))).view = R at *
  generalize (mkL 6 (sigRows rs (dFNs p.funcs))).view = T at *
  generalize (mkL 4 (fldRows rs (dPs p.globals))).view = G at *
  generalize mainI (dFNs p.funcs) = m at *
  refine call_pure (sf := s12) rfl rfl (by simp [AV.allPure, AV.isPure, pure_sl r1, pure_sl s1, pure_sl g1]) rfl (by simp) ?_
  simp [s12, r1, rr, rv, s1, sr, sv, g1, gv, gc]
  refine W_loopI s12_l0.eq_1 (fun k : Nat => ⟨[(2, .fp 0 0), (3, .fp 1 0), (5, .val (.int .i64 k))], [[R, G, T, .int .i64 m], [R, G, T, .int .i64 m]], []⟩)
    (fun k => k ≤ (dCRs p.recs).length) (fun k => (dCRs p.recs).length - k) 0 (by simp) (by simp) ?_
  intro k hk ih
  by_cases hlt : k < (dCRs p.recs).length
  · have hrl := hs.recs
    have hw : IntKind.i64.wrap ((k : Int) + 1) = ((k + 1 : Nat) : Int) := by rw [wrap64] <;> omega
    have c2 := c1 rs (dPs (dCRs p.recs)[k].fields) (hs.fields _ (List.getElem_mem hlt))
    simp [r1, rr, rv, rz, hlt, hw, recRow, c2, W_draw0, noBoxes]
    exact ih (k + 1) (by omega) (by omega)
  · simp [r1, rr, rv, hlt]
    refine W_loopI s12_l1.eq_1 (fun k : Nat => ⟨[(2, .fp 0 0), (3, .fp 1 0), (6, .val (.int .i64 k))], [[R, G, T, .int .i64 m], [R, G, T, .int .i64 m]], []⟩)
      (fun k => k ≤ (dFNs p.funcs).length) (fun k => (dFNs p.funcs).length - k) 0 (by simp) (by simp) ?_
    intro k hk ih
    by_cases hlt : k < (dFNs p.funcs).length
    · have hrl := hs.funcs
      have hw : IntKind.i64.wrap ((k : Int) + 1) = ((k + 1 : Nat) : Int) := by rw [wrap64] <;> omega
      have c2 := c1 rs (dPs (dFNs p.funcs)[k].params) (hs.params _ (List.getElem_mem hlt))
      simp [s1, sr, sv, sz, hlt, hw, sigRow, c2, W_draw0, noBoxes]
      exact ih (k + 1) (by omega) (by omega)
    · simp [s1, sr, sv, hlt]
end U7

namespace U7
open Ax Go Code7 V7
set_option maxRecDepth 100000
set_option maxHeartbeats 4000000

theorem wrong_ok (wl lim : Nat) (a : Int) (st : Store) : (orcL S).call wl lim 36 [.int .i64 a] st = some (.agg [.int .i64 3, .int .i64 a], st) := by
  refine call_pure (sf := s36) rfl rfl (by simp) rfl (by simp) ?_
  simp [s36]

theorem names_ok (wl lim : Nat) (p : GD) (st : Store) (hp : p.ok) (hn : (dCRs p.recs).length < 1000000000) : (orcL S).call wl lim 35 [.agg p.cells] st = some (mkL 1 (sts (recN (dCRs p.recs))), st) := by
  have p1 := isSl_CR hp.recs
  have p2 := isCRs_vw hp.recs
  have p3 := rowsL_CR hp.recs
  have g1 := isSl_P hp.globals
  have g2 := isPs_vw hp.globals
  have f1 := isSl_FN hp.funcs
  have f2 := isFNs_vw hp.funcs
  have hpr := hp.recs
  refine call_pure (sf := s35) rfl rfl (by simp [GD.cells, AV.allPure, AV.isPure, p1, g1, f1]) rfl (by simp) ?_
  simp [s35, GD.cells, p1, g1, f1]
  refine W_loopI s35_l0.eq_1 (fun k : Nat => ⟨[(1, .fp 0 0), (3, .val (mkL 1 (sts (recN ((dCRs p.recs).take k))))), (4, .val (.int .i64 k))], [[p.recs, p.globals, p.funcs]], []⟩)
    (fun k => k ≤ (dCRs p.recs).length) (fun k => (dCRs p.recs).length - k) 0 (by simp [recN, sts, mkL_nil]) (by simp) ?_
  intro k hk ih
  by_cases hlt : k < (dCRs p.recs).length
  · have hw : IntKind.i64.wrap ((k : Int) + 1) = ((k + 1 : Nat) : Int) := by rw [wrap64] <;> omega
    have ha : appV 1 16 (mkL 1 (sts (recN ((dCRs p.recs).take k)))) [[.str (dCRs p.recs)[k].name]] = some (mkL 1 (sts (recN ((dCRs p.recs).take (k + 1))))) := by
      rw [appV_mk (by rfl) (by simp [sts, recN, room]; omega)]
      simp only [recN, sts, List.take_succ_eq_append_getElem hlt, List.map_append, List.map_cons, List.map_nil]
    simp [p2, p3, hpr, hlt, CR.cells, hw, ha]
    exact ih (k + 1) (by omega) (by omega)
  · have hkl : k = (dCRs p.recs).length := by omega
    subst hkl
    simp [p1, p2, p3]

/-- Is a name none of those ahead? -/
def okJ (o : Bool) (l : List PD) (s : List UInt8) (j : Nat) : Bool := o && !((l.take j).any fun q => decide (q.name = s))
theorem okJ_succ {o : Bool} {l : List PD} {s : List UInt8} {j : Nat} (h : j < l.length) : okJ o l s (j + 1) = (okJ o l s j && !decide (l[j].name = s)) := by
  unfold okJ
  rw [List.take_succ_eq_append_getElem h, List.any_append]
  simp [Bool.and_assoc]
def rfV (rs : List (List UInt8)) (l : List PD) : AV := .tup [match firstB (badP rs) l l.length with | some _ => .nilSl | none => mkL 4 (fldRows rs l), .agg (fltAV (firstB (badP rs) l l.length))]
theorem firstB_stay {α : Type} {bad : List α → α → Option Int} {l : List α} {k : Nat} {y : Int} (h : firstB bad l k = some y) : ∀ m, k ≤ m → firstB bad l m = some y := by
  intro m hm
  induction m with
  | zero => have : k = 0 := by omega
            subst this; exact h
  | succ m ih =>
    by_cases e : k = m + 1
    · subst e; exact h
    · show orF (firstB bad l m) _ = some y
      rw [ih (by omega)]; rfl

theorem rfields_ok (wl lim : Nat) (l rl : AV) (st : Store) (hl : isSts rl = true) (hn : (dSts rl).length < 1000000000) (hp : isPs l = true) (hpn : (dPs l).length < 1000000000) :
    (orcL S).call wl lim 37 [rl, l] st = some (rfV (dSts rl) (dPs l), st) := by
  have h1 := isSl_St hl
  have h2 := isSts_vw hl
  have p1 := isSl_P hp
  have p2 := isPs_vw hp
  have p3 := rowsL_P hp
  have e1 := fun wl lim s d st => rtype_ok wl lim rl s d st hl hn
  have e2 := fun wl lim a st => wrong_ok wl lim a st
  simp only [T3.cells] at e1
  refine call_pure (sf := s37) rfl rfl (by simp [pure_sl h1, pure_sl p1]) rfl (by cases h : firstB (badP (dSts rl)) (dPs l) (dPs l).length <;> simp [rfV, h, fltAV, AV.isPure, AV.allPure]) ?_
  simp [s37]
  refine W_loopI s37_l1.eq_1 (fun q : Nat × List AV => ⟨[(0, .val rl), (1, .val l), (5, .fp 0 0), (6, .val (mkL 4 (fldRows (dSts rl) ((dPs l).take q.1)))), (7, .val (.int .i64 q.1))], [[.int .i64 0, .int .i64 0], q.2], []⟩)
    (fun q => q.1 ≤ (dPs l).length ∧ firstB (badP (dSts rl)) (dPs l) q.1 = none) (fun q => (dPs l).length - q.1) ((0, []) : Nat × List AV) (by simp [fldRows, mkL_nil]) ⟨by simp, rfl⟩ ?_
  rintro ⟨k, bb⟩ ⟨hk, hf⟩ ih
  simp only at hk hf ih
  by_cases hlt : k < (dPs l).length
  · have hw : IntKind.i64.wrap ((k : Int) + 1) = ((k + 1 : Nat) : Int) := by rw [wrap64] <;> omega
    have hb := firstB_succ (bad := badP (dSts rl)) hlt
    rw [hf] at hb
    have hr := fldRows_succ (rs := dSts rl) hlt
    have hlen : (fldRows (dSts rl) ((dPs l).take k)).length = k := by simp [fldRows]; omega
    have ha : appV 4 40 (mkL 4 (fldRows (dSts rl) ((dPs l).take k))) [fldRow (dSts rl) (dPs l)[k]] = some (mkL 4 (fldRows (dSts rl) ((dPs l).take (k + 1)))) := by
      rw [appV_mk (by rfl) (by rw [hlen]; simp [room]; omega), hr]
    generalize hq : (dPs l)[k] = p at *
    simp only [fldRow, T3.cells] at ha
    obtain ⟨o, ho⟩ : ∃ o, o = (typeT (dSts rl) p.on p.od).2 := ⟨_, rfl⟩
    simp [h2, p2, p3, hp, hlt, PD.cells, hq, e1]
    refine W_loopI s37_l0.eq_1 (fun j : Nat => ⟨[(0, .val rl), (1, .val l), (5, .fp 0 0), (6, .val (mkL 4 (fldRows (dSts rl) ((dPs l).take k)))), (7, .val (.int .i64 k)), (8, .fp 1 0), (9, .val (.bool (okJ o (dPs l) p.name j))), (10, .val (.int .i64 j))],
        [[.int .i64 0, .int .i64 0], (typeT (dSts rl) p.on p.od).1.cells], []⟩)
      (fun j => j ≤ k) (fun j => k - j) 0 (by simp [okJ, ho]) (by simp) ?_
    intro j hj ih2
    by_cases hjk : j < k
    · have hw2 : IntKind.i64.wrap ((j : Int) + 1) = ((j + 1 : Nat) : Int) := by rw [wrap64] <;> omega
      have hjl : j < (dPs l).length := by omega
      have hs := okJ_succ (o := o) (s := p.name) hjl
      have hi2 := ih2 (j + 1) (by omega) (by omega)
      rw [hs] at hi2
      cases hoj : okJ o (dPs l) p.name j with
      | false =>
        rw [hoj] at hi2
        simp [hjk, hw2, W_draw0, noBoxes]
        simp only [Bool.false_and] at hi2
        exact hi2
      | true =>
        rw [hoj] at hi2
        by_cases hnm : (dPs l)[j].name = p.name
        · simp [p2, p3, hp, hjk, hjl, hlt, PD.cells, hw2, hq, hnm, W_draw0, noBoxes]
          simp only [hnm, decide_true, Bool.not_true, Bool.and_false] at hi2
          exact hi2
        · simp [p2, p3, hp, hjk, hjl, hlt, PD.cells, hw2, hq, hnm, W_draw0, noBoxes]
          simp only [decide_eq_false hnm, Bool.not_false, Bool.and_true] at hi2
          exact hi2
    · have hjk' : j = k := by omega
      subst hjk'
      simp
      cases hoj : okJ o (dPs l) p.name j with
      | true =>
        have hbad : badP (dSts rl) ((dPs l).take j) p = none := by
          simp only [okJ, Bool.and_eq_true, Bool.not_eq_true', ho] at hoj
          unfold badP; rw [hoj.2, hoj.1]; rfl
        rw [hbad] at hb
        simp [p2, p3, hp, hlt, PD.cells, hw, hq, ha, W_draw0, noBoxes]
        exact ih (j + 1, _) ⟨by simp; omega, hb⟩ (by simp; omega)
      | false =>
        have hbad : badP (dSts rl) ((dPs l).take j) p = some p.at_ := by
          unfold badP
          rw [if_pos]
          simp only [okJ, Bool.and_eq_false_iff, Bool.not_eq_false', ho] at hoj
          rcases hoj with h | h
          · rw [h]; simp
          · rw [h]; rfl
        rw [hbad] at hb
        have hres := firstB_stay (show firstB (badP (dSts rl)) (dPs l) (j + 1) = some p.at_ from hb) (dPs l).length (by omega)
        simp [p3, hp, hlt, PD.cells, hq, e2, rfV, hres, fltAV]
  · have hkl : k = (dPs l).length := by omega
    subst hkl
    simp [p1, p2, p3, rfV, hf, fltAV]
end U7

namespace U7
open Ax Go Code7 V7
set_option maxRecDepth 100000
set_option maxHeartbeats 1000000

/-- The last one that may begin, among the first k. -/
def mainK (l : List FN) : Nat → Int
  | 0 => -1
  | k + 1 => match l[k]? with
    | some x => if isMainT x then (k : Int) else mainK l k
    | none => mainK l k

theorem orF_nn {a b : Option Int} (h : orF a b = none) : a = none ∧ b = none := by
  cases a with
  | none => exact ⟨rfl, h⟩
  | some x => cases h
theorem firstB_all {α : Type} {bad : List α → α → Option Int} {l : List α} : ∀ {m : Nat}, firstB bad l m = none → ∀ k (h : k < l.length), k < m → bad (l.take k) l[k] = none
  | 0, _, k, _, hk => absurd hk (by omega)
  | m + 1, h, k, hl, hk => by
    obtain ⟨h1, h2⟩ := orF_nn h
    by_cases e : k = m
    · subst e
      rw [List.getElem?_eq_getElem hl] at h2
      exact h2
    · exact firstB_all h1 k hl (by omega)
theorem isMain_name {x : FN} (h : isMainT x = true) : x.name = nmain := by
  simp only [isMainT, Bool.and_eq_true, decide_eq_true_eq] at h
  exact h.1.1
theorem mainK_none {l : List FN} (h : ∀ k (hk : k < l.length), isMainT l[k] = false) : ∀ m, mainK l m = -1
  | 0 => rfl
  | m + 1 => by
    unfold mainK
    by_cases hm : m < l.length
    · rw [List.getElem?_eq_getElem hm]; simp [h m hm, mainK_none h m]
    · rw [List.getElem?_eq_none (by omega)]; exact mainK_none h m
theorem mainK_some {l : List FN} {j : Nat} (hj : j < l.length) (hm : isMainT l[j] = true) (h1 : ∀ k (hk : k < l.length), k < j → isMainT l[k] = false) (h2 : ∀ k (hk : k < l.length), j < k → isMainT l[k] = false) : ∀ m, mainK l m = if j < m then (j : Int) else -1
  | 0 => by simp [mainK]
  | m + 1 => by
    have ih := mainK_some hj hm h1 h2 m
    unfold mainK
    by_cases hml : m < l.length
    · rw [List.getElem?_eq_getElem hml]
      dsimp only
      by_cases e : m = j
      · subst e; rw [if_pos hm, if_pos (by omega)]
      · have hf : isMainT l[m] = false := by
          rcases Nat.lt_or_gt_of_ne e with h | h
          · exact h1 m hml h
          · exact h2 m hml h
        rw [if_neg (by rw [hf]; simp), ih]
        by_cases hjm : j < m
        · rw [if_pos hjm, if_pos (by omega)]
        · rw [if_neg hjm, if_neg (by omega)]
    · rw [List.getElem?_eq_none (by omega)]
      dsimp only
      rw [ih, if_pos (by omega), if_pos (by omega)]
theorem main_eq {l : List FN} (h : ∀ k (hk : k < l.length), badD (l.take k) l[k] = none) : mainK l l.length = mainI l := by
  unfold mainI
  cases e : l.findIdx? isMainT with
  | none =>
    rw [List.findIdx?_eq_none_iff] at e
    exact mainK_none (fun k hk => e _ (List.getElem_mem hk)) _
  | some j =>
    obtain ⟨hj, h1, h2⟩ := List.findIdx?_eq_some_iff_getElem.1 e
    rw [mainK_some hj h1 (fun k hk hkj => by simpa using h2 k hkj) (fun k hk hjk => ?_), if_pos hj]
    cases hb : isMainT l[k] with
    | false => rfl
    | true =>
      have := h k hk
      unfold badD at this
      rw [if_pos] at this
      · cases this
      · rw [List.any_eq_true]
        refine ⟨l[j], ?_, ?_⟩
        · exact List.mem_take_iff_getElem.2 ⟨j, by omega, rfl⟩
        · rw [isMain_name h1, isMain_name hb]; simp

theorem any_nope {α : Type} {p : α → Bool} {l : List α} {k : Nat} (h : nope p (l.take k) k) : (l.take k).any p = false := by
  rw [List.any_eq_false]
  intro q hq
  obtain ⟨i, hi, rfl⟩ := List.mem_iff_getElem.1 hq
  have := h i hi (by simp at hi; omega)
  rw [this]; simp
theorem fH {p : GD} {y : Int} (h : fault3 p = some y) : resH p = .tup [zeroH, .agg [.int .i64 3, .int .i64 y]] := by
  have : faultH p = some y := by unfold faultH; rw [h]; split <;> rfl
  unfold resH; rw [this]; rfl
theorem f3A {p : GD} {y : Int} (h : firstB badR (dCRs p.recs) (dCRs p.recs).length = some y) : fault3 p = some y := by unfold fault3; rw [h]; rfl
theorem f3B {p : GD} {y : Int} (a : firstB badR (dCRs p.recs) (dCRs p.recs).length = none) (h : firstB (badF (recN (dCRs p.recs))) (dCRs p.recs) (dCRs p.recs).length = some y) : fault3 p = some y := by unfold fault3; rw [a, h]; rfl
theorem f3C {p : GD} {y : Int} (a : firstB badR (dCRs p.recs) (dCRs p.recs).length = none) (b : firstB (badF (recN (dCRs p.recs))) (dCRs p.recs) (dCRs p.recs).length = none)
    (h : firstB (badP (recN (dCRs p.recs))) (dPs p.globals) (dPs p.globals).length = some y) : fault3 p = some y := by unfold fault3; rw [a, b, h]; rfl
theorem f3D {p : GD} {y : Option Int} (a : firstB badR (dCRs p.recs) (dCRs p.recs).length = none) (b : firstB (badF (recN (dCRs p.recs))) (dCRs p.recs) (dCRs p.recs).length = none)
    (c : firstB (badP (recN (dCRs p.recs))) (dPs p.globals) (dPs p.globals).length = none) (h : firstB (badS (recN (dCRs p.recs))) (dFNs p.funcs) (dFNs p.funcs).length = y) : fault3 p = y := by unfold fault3; rw [a, b, c, h]; rfl

theorem rmake_ok (wl lim : Nat) (p : GD) (st : Store) (hp : p.ok) (hs : GD.sm p) : (orcL S).call wl lim 11 [.agg p.cells] st = some (resH p, st) := by
  have p1 := isSl_CR hp.recs
  have p2 := isCRs_vw hp.recs
  have p3 := rowsL_CR hp.recs
  have pr := hp.recs
  have g1 := isSl_P hp.globals
  have g2 := isPs_vw hp.globals
  have f1 := isSl_FN hp.funcs
  have f2 := isFNs_vw hp.funcs
  have f3 := rowsL_FN hp.funcs
  have fr := hp.funcs
  have en := fun wl lim st => names_ok wl lim p st hp hs.recs
  have e2 := fun wl lim a st => wrong_ok wl lim a st
  simp only [GD.cells] at en
  obtain ⟨rs, hrs⟩ : ∃ rs, rs = recN (dCRs p.recs) := ⟨_, rfl⟩
  have hrn : rs.length = (dCRs p.recs).length := by rw [hrs]; simp [recN]
  have hrk : ∀ k (h : k < rs.length) (h2 : k < (dCRs p.recs).length), rs[k] = (dCRs p.recs)[k].name := by intro k h h2; subst hrs; simp [recN]
  have n1 : isSl (mkL 1 (sts rs)) = true := isSl_mk
  have n2 := isSts_mk rs
  have n3 : rowsL (mkL 1 (sts rs)) = rs.map fun s => [.str s] := rowsL_mk
  have n4 : dSts (mkL 1 (sts rs)) = rs := dSts_mk rs
  have n5 : isSz 1 (mkL 1 (sts rs)) = true := by simpa using isSz_St n2
  rw [← hrs] at en
  generalize mkL 1 (sts rs) = nl at *
  have hrecs := hs.recs
  have hfuncs := hs.funcs
  refine call_pure (sf := s11) rfl rfl (by simp [GD.cells, AV.allPure, AV.isPure, p1, g1, f1]) rfl (by cases h : faultH p <;> simp [resH, h, zeroH, headsV, AV.isPure, AV.allPure]) ?_
  simp [s11, GD.cells, p1, p2, g1, g2, f1, f2, en]
  refine W_loopI s11_l1.eq_1 (fun k : Nat => ⟨[(1, .fp 0 0), (2, .fp 1 0), (3, .fp 2 0), (4, .val nl), (5, .val (.int .i64 k))],
      [[p.recs, p.globals, p.funcs], [.nilSl, .nilSl, .nilSl, .int .i64 0], [.int .i64 0, .int .i64 0], [], [], [], [], [], [], []], []⟩)
    (fun k => k ≤ (dCRs p.recs).length ∧ firstB badR (dCRs p.recs) k = none) (fun k => (dCRs p.recs).length - k) 0 (by simp) ⟨by simp, rfl⟩ ?_
  intro k ⟨hk, hA⟩ ih
  by_cases hlt : k < (dCRs p.recs).length
  · have hw : IntKind.i64.wrap ((k : Int) + 1) = ((k + 1 : Nat) : Int) := by rw [wrap64] <;> omega
    have hb := firstB_succ (bad := badR) hlt
    rw [hA] at hb
    have hkr : k < rs.length := by omega
    simp [n1, n3, hrn, hlt]
    refine W_loopI s11_l0.eq_1 (fun j : Nat => ⟨[(1, .fp 0 0), (2, .fp 1 0), (3, .fp 2 0), (4, .val nl), (5, .val (.int .i64 k)), (6, .val (.int .i64 j))],
        [[p.recs, p.globals, p.funcs], [.nilSl, .nilSl, .nilSl, .int .i64 0], [.int .i64 0, .int .i64 0], [], [], [], [], [], [], []], []⟩)
      (fun j => j ≤ k ∧ nope (fun q : CR => decide (q.name = (dCRs p.recs)[k].name)) ((dCRs p.recs).take k) j) (fun j => k - j) 0 (by simp) ⟨by simp, nope_zero⟩ ?_
    intro j ⟨hj, hn⟩ ih2
    by_cases hjk : j < k
    · have hw2 : IntKind.i64.wrap ((j : Int) + 1) = ((j + 1 : Nat) : Int) := by rw [wrap64] <;> omega
      have hjr : j < rs.length := by omega
      have hjl : j < (dCRs p.recs).length := by omega
      have e1 := hrk j hjr hjl
      have e3 := hrk k hkr hlt
      have hjt : j < ((dCRs p.recs).take k).length := by simp; omega
      have hjg : ((dCRs p.recs).take k)[j] = (dCRs p.recs)[j] := List.getElem_take
      by_cases hnm : (dCRs p.recs)[j].name = (dCRs p.recs)[k].name
      · have hbad : badR ((dCRs p.recs).take k) (dCRs p.recs)[k] = some (dCRs p.recs)[k].at_ := by
          unfold badR
          rw [if_pos]
          exact List.any_eq_true.2 ⟨_, List.getElem_mem hjt, by rw [hjg]; simpa using hnm⟩
        rw [hbad] at hb
        have hr := fH (f3A (firstB_stay (show firstB badR (dCRs p.recs) (k + 1) = some _ from hb) _ (by omega)))
        rw [hr]
        simp [n3, n5, hjr, hkr, hjk, e1, e3, hnm, p2, p3, pr, hlt, CR.cells, e2, zeroH, W_draw0, noBoxes]
      · simp [n3, n5, hjr, hkr, hjk, e1, e3, hnm, hw2, W_draw0, noBoxes]
        exact ih2 (j + 1) ⟨by omega, nope_succ hn hjt (by rw [hjg]; simpa using hnm)⟩ (by omega)
    · have hjk' : j = k := by omega
      subst hjk'
      have hbad : badR ((dCRs p.recs).take j) (dCRs p.recs)[j] = none := by
        unfold badR
        rw [any_nope hn]; rfl
      rw [hbad] at hb
      simp [hw]
      exact ih (j + 1) ⟨by omega, hb⟩ (by omega)
  · have hkl : k = (dCRs p.recs).length := by omega
    subst hkl
    simp [n1, n3, hrn]
    refine W_loopI s11_l2.eq_1 (fun q : Nat × List AV => ⟨[(1, .fp 0 0), (2, .fp 1 0), (3, .fp 2 0), (4, .val nl), (7, .fp 3 0), (8, .val (.int .i64 q.1))],
        [[p.recs, p.globals, p.funcs], [.nilSl, .nilSl, .nilSl, .int .i64 0], [.int .i64 0, .int .i64 0], [mkL 2 (recRows rs ((dCRs p.recs).take q.1)), .nilSl, .nilSl, .int .i64 (-1)], q.2, [], [], [], [], []], []⟩)
      (fun q => q.1 ≤ (dCRs p.recs).length ∧ firstB (badF rs) (dCRs p.recs) q.1 = none) (fun q => (dCRs p.recs).length - q.1) ((0, []) : Nat × List AV) (by simp [recRows, mkL_nil]) ⟨by simp, rfl⟩ ?_
    rintro ⟨k, bb⟩ ⟨hk, hB⟩ ih
    simp only at hk hB ih
    by_cases hlt : k < (dCRs p.recs).length
    · have hw : IntKind.i64.wrap ((k : Int) + 1) = ((k + 1 : Nat) : Int) := by rw [wrap64] <;> omega
      have hb := firstB_succ (bad := badF rs) hlt
      rw [hB] at hb
      have hkr : k < rs.length := by omega
      have e1 := hrk k hkr hlt
      have hF := isCRs_get hp.recs _ (List.getElem_mem hlt)
      have hFs := isSl_P hF
      have hFv := isPs_vw hF
      have hFn := hs.fields _ (List.getElem_mem hlt)
      have e3 := fun wl lim st => rfields_ok wl lim (dCRs p.recs)[k].fields nl.view st n2 (by rw [dSts_view, n4]; omega) hF hFn
      simp only [dSts_view, n4, rfV] at e3
      have ha : appV 2 40 (mkL 2 (recRows rs ((dCRs p.recs).take k))) [recRow rs (dCRs p.recs)[k]] = some (mkL 2 (recRows rs ((dCRs p.recs).take (k + 1)))) := by
        rw [appV_mk (by rfl) (by simp [recRows, room]; omega)]
        simp only [recRows, List.take_succ_eq_append_getElem hlt, List.map_append, List.map_cons, List.map_nil]
      simp only [recRow] at ha
      cases hf : badF rs ((dCRs p.recs).take k) (dCRs p.recs)[k] with
      | some y =>
        rw [hf] at hb
        have hr := fH (f3B hA (hrs ▸ firstB_stay (show firstB (badF rs) (dCRs p.recs) (k + 1) = some _ from hb) _ (by omega)))
        rw [hr]
        simp only [badF] at hf
        simp only [hf, fltAV] at e3
        simp [p2, p3, pr, hlt, CR.cells, hFv, e3, zeroH, W_drawB, boxOk, SOp.newBox, noFp]
      | none =>
        rw [hf] at hb
        simp only [badF] at hf
        simp only [hf, fltAV] at e3
        simp [p2, p3, pr, hlt, CR.cells, hFv, n3, n5, hkr, e1, e3, hw, ha, W_drawB, boxOk, SOp.newBox, noFp]
        exact ih (k + 1, _) ⟨by simp; omega, hb⟩ (by simp; omega)
    · have hkl : k = (dCRs p.recs).length := by omega
      subst hkl
      have eg := fun wl lim st => rfields_ok wl lim p.globals nl.view st n2 (by rw [dSts_view, n4]; omega) hp.globals hs.globals
      simp only [dSts_view, n4, rfV] at eg
      cases hC : firstB (badP rs) (dPs p.globals) (dPs p.globals).length with
      | some y =>
        have hr := fH (f3C hA (hrs ▸ hB) (hrs ▸ hC))
        rw [hr]
        simp only [hC, fltAV] at eg
        simp [p1, p2, p3, g2, eg, zeroH, W_drawB, boxOk, SOp.newBox, noFp]
      | none =>
        simp only [hC, fltAV] at eg
        simp [p1, p2, p3, g2, eg, SOp.newBox, noFp]
        obtain ⟨RR, hRR⟩ : ∃ v, v = mkL 2 (recRows rs (dCRs p.recs)) := ⟨_, rfl⟩
        obtain ⟨GG, hGG⟩ : ∃ v, v = (mkL 4 (fldRows rs (dPs p.globals))).view := ⟨_, rfl⟩
        rw [← hRR, ← hGG]
        have hGs : isSl GG = true := by rw [hGG]; simp
        have hGv : GG.view = GG := by rw [hGG]; exact view_view _
        have hRs : isSl RR = true := by rw [hRR]; simp
        refine W_loopI s11_l4.eq_1 (fun q : Nat × List AV × List AV × List AV × List AV => ⟨[(1, .fp 0 0), (2, .fp 1 0), (3, .fp 2 0), (4, .val nl), (7, .fp 3 0), (13, .val (.int .i64 q.1))],
            [[p.recs, p.globals, p.funcs], [.nilSl, .nilSl, .nilSl, .int .i64 0], [.int .i64 0, .int .i64 0], [RR, GG, mkL 6 (sigRows rs ((dFNs p.funcs).take q.1)), .int .i64 (mainK (dFNs p.funcs) q.1)], bb, [.int .i64 0, .int .i64 0], q.2.1, q.2.2.1, q.2.2.2.1, q.2.2.2.2], []⟩)
          (fun q => q.1 ≤ (dFNs p.funcs).length ∧ firstB (badS rs) (dFNs p.funcs) q.1 = none) (fun q => (dFNs p.funcs).length - q.1) ((0, [], [], [], []) : Nat × List AV × List AV × List AV × List AV) (by simp [sigRows, mkL_nil, mainK]) ⟨by simp, rfl⟩ ?_
        rintro ⟨k, b6, b7, b8, b9⟩ ⟨hk, hD⟩ ih
        simp only at hk hD ih
        by_cases hlt : k < (dFNs p.funcs).length
        · have hw : IntKind.i64.wrap ((k : Int) + 1) = ((k + 1 : Nat) : Int) := by rw [wrap64] <;> omega
          have hb := firstB_succ (bad := badS rs) hlt
          rw [hD] at hb
          have hG := isFNs_get hp.funcs _ (List.getElem_mem hlt)
          have hG1 := hG.1
          have hFs := isSl_P hG.1
          have hFv := isPs_vw hG.1
          have hBs := hG.2.2
          have hBv := view_notOwn hG.2.1 hG.2.2
          have hFn := hs.params _ (List.getElem_mem hlt)
          have e3 := fun wl lim st => rfields_ok wl lim (dFNs p.funcs)[k].params nl.view st n2 (by rw [dSts_view, n4]; omega) hG.1 hFn
          have et := fun wl lim st => rtype_ok wl lim nl.view (dFNs p.funcs)[k].on (dFNs p.funcs)[k].od st n2 (by rw [dSts_view, n4]; omega)
          simp only [dSts_view, n4, rfV, T3.cells] at e3 et
          have ha : appV 6 72 (mkL 6 (sigRows rs ((dFNs p.funcs).take k))) [sigRow rs (dFNs p.funcs)[k]] = some (mkL 6 (sigRows rs ((dFNs p.funcs).take (k + 1)))) := by
            rw [appV_mk (by rfl) (by simp [sigRows, room]; omega)]
            simp only [sigRows, List.take_succ_eq_append_getElem hlt, List.map_append, List.map_cons, List.map_nil]
          have hmk : mainK (dFNs p.funcs) (k + 1) = if isMainT (dFNs p.funcs)[k] then (k : Int) else mainK (dFNs p.funcs) k := by simp [mainK, hlt]
          have hmsl : isSl (mkL 6 (sigRows rs ((dFNs p.funcs).take k))) = true := isSl_mk
          simp [f2, f3, fr, hlt, FN.cells, hG1, hBs, hBv, hFv]
          refine W_loopI s11_l3.eq_1 (fun j : Nat => ⟨[(1, .fp 0 0), (2, .fp 1 0), (3, .fp 2 0), (4, .val nl), (7, .fp 3 0), (13, .val (.int .i64 k)), (14, .fp 6 0), (15, .val (.int .i64 j))],
              [[p.recs, p.globals, p.funcs], [.nilSl, .nilSl, .nilSl, .int .i64 0], [.int .i64 0, .int .i64 0], [RR, GG, mkL 6 (sigRows rs ((dFNs p.funcs).take k)), .int .i64 (mainK (dFNs p.funcs) k)], bb, [.int .i64 0, .int .i64 0], (dFNs p.funcs)[k].cells, b7, b8, b9], []⟩)
            (fun j => j ≤ k ∧ nope (fun q : FN => decide (q.name = (dFNs p.funcs)[k].name)) ((dFNs p.funcs).take k) j) (fun j => k - j) 0 (by simp [FN.cells]) ⟨by simp, nope_zero⟩ ?_
          intro j ⟨hj, hn⟩ ih2
          by_cases hjk : j < k
          · have hw2 : IntKind.i64.wrap ((j : Int) + 1) = ((j + 1 : Nat) : Int) := by rw [wrap64] <;> omega
            have hjl : j < (dFNs p.funcs).length := by omega
            have hjt : j < ((dFNs p.funcs).take k).length := by simp; omega
            have hjg : ((dFNs p.funcs).take k)[j] = (dFNs p.funcs)[j] := List.getElem_take
            by_cases hnm : (dFNs p.funcs)[j].name = (dFNs p.funcs)[k].name
            · have hbad : badS rs ((dFNs p.funcs).take k) (dFNs p.funcs)[k] = some (dFNs p.funcs)[k].at_ := by
                unfold badS badD
                rw [if_pos]
                · rfl
                · exact List.any_eq_true.2 ⟨_, List.getElem_mem hjt, by rw [hjg]; simpa using hnm⟩
              rw [hbad] at hb
              have hr := fH (f3D hA (hrs ▸ hB) (hrs ▸ hC) (hrs ▸ firstB_stay (show firstB (badS rs) (dFNs p.funcs) (k + 1) = some _ from hb) _ (by omega)))
              rw [hr]
              simp [f2, f3, fr, hjk, hjl, FN.cells, hnm, e2, zeroH, W_draw0, noBoxes]
            · simp [f2, f3, fr, hjk, hjl, FN.cells, hnm, hw2, W_draw0, noBoxes]
              exact ih2 (j + 1) ⟨by omega, nope_succ hn hjt (by rw [hjg]; simpa using hnm)⟩ (by omega)
          · have hjk' : j = k := by omega
            subst hjk'
            have hDn : badD ((dFNs p.funcs).take j) (dFNs p.funcs)[j] = none := by
              unfold badD; rw [any_nope hn]; rfl
            have hS : badS rs ((dFNs p.funcs).take j) (dFNs p.funcs)[j] = orF (firstB (badP rs) (dPs (dFNs p.funcs)[j].params) (dPs (dFNs p.funcs)[j].params).length) (badT rs (dFNs p.funcs)[j]) := by
              unfold badS; rw [hDn]; rfl
            rw [hS] at hb
            generalize hq : (dFNs p.funcs)[j] = f at *
            cases hP : firstB (badP rs) (dPs f.params) (dPs f.params).length with
            | some y =>
              rw [hP] at hb
              have hr := fH (f3D hA (hrs ▸ hB) (hrs ▸ hC) (hrs ▸ firstB_stay (show firstB (badS rs) (dFNs p.funcs) (j + 1) = some y from hb) _ (by omega)))
              rw [hr]
              simp only [hP, fltAV] at e3
              simp [FN.cells, hFv, e3, zeroH, W_drawB, boxOk, SOp.newBox, noFp]
            | none =>
              rw [hP] at hb
              simp only [hP, fltAV] at e3
              simp [FN.cells, hFv, e3, SOp.newBox, noFp]
              have hfl : (fldRows rs (dPs f.params)).length = (dPs f.params).length := by simp [fldRows]
              cases hh : f.has with
              | false =>
                have hT : badT rs f = none := by unfold badT; rw [hh]; rfl
                rw [hT] at hb
                simp only [sigRow, resT, hh, if_false, Bool.false_eq_true] at ha
                by_cases a : f.name = nmain
                · have ea : (f.name = [109, 97, 105, 110]) = True := eq_true a
                  by_cases b : dPs f.params = []
                  · have l0 : (dPs f.params).length = 0 := by rw [b]; rfl
                    have hM : isMainT f = true := by simp [isMainT, a, b, hh]
                    have hi := ih (j + 1, f.cells, [.int .i64 0, .int .i64 0], [.str f.name, (mkL 4 (fldRows rs (dPs f.params))).view, .bool f.has, .int .i64 0, .int .i64 0, .int .i64 0], b9) ⟨by simp; omega, hb⟩ (by simp; omega)
                    simp only [hmk, hM, if_true, FN.cells, hh] at hi
                    simp [hw, hfl, ha, ea, l0, SOp.newBox]
                    simp only [Int.natCast_add, Int.natCast_one] at hi
                    exact hi
                  · have l0 : ¬ (dPs f.params).length = 0 := by simpa using b
                    have l1 : ((dPs f.params).length = 0) = False := eq_false l0
                    have hM : isMainT f = false := by simp [isMainT, a, b, hh]
                    have hi := ih (j + 1, f.cells, [.int .i64 0, .int .i64 0], [.str f.name, (mkL 4 (fldRows rs (dPs f.params))).view, .bool f.has, .int .i64 0, .int .i64 0, .int .i64 0], b9) ⟨by simp; omega, hb⟩ (by simp; omega)
                    simp only [hmk, hM, if_false, Bool.false_eq_true, FN.cells, hh] at hi
                    simp [hw, hfl, ha, ea, l1, SOp.newBox]
                    simp only [Int.natCast_add, Int.natCast_one] at hi
                    exact hi
                · have ea : (f.name = [109, 97, 105, 110]) = False := eq_false a
                  have hM : isMainT f = false := by simp [isMainT, a, hh]
                  have hi := ih (j + 1, f.cells, [.int .i64 0, .int .i64 0], [.str f.name, (mkL 4 (fldRows rs (dPs f.params))).view, .bool f.has, .int .i64 0, .int .i64 0, .int .i64 0], b9) ⟨by simp; omega, hb⟩ (by simp; omega)
                  simp only [hmk, hM, if_false, Bool.false_eq_true, FN.cells, hh] at hi
                  simp [hw, ha, ea, SOp.newBox]
                  simp only [Int.natCast_add, Int.natCast_one] at hi
                  exact hi
              | true =>
                cases ho : (typeT rs f.on f.od).2 with
                | false =>
                  have hT : badT rs f = some f.at_ := by unfold badT; rw [hh, ho]; rfl
                  rw [hT] at hb
                  have hr := fH (f3D hA (hrs ▸ hB) (hrs ▸ hC) (hrs ▸ firstB_stay (show firstB (badS rs) (dFNs p.funcs) (j + 1) = some f.at_ from hb) _ (by omega)))
                  rw [hr]
                  simp [et, ho, e2, zeroH]
                | true =>
                  have hT : badT rs f = none := by unfold badT; rw [hh, ho]; rfl
                  rw [hT] at hb
                  simp only [sigRow, resT, hh, if_true] at ha
                  by_cases a : f.name = nmain
                  · have ea : (f.name = [109, 97, 105, 110]) = True := eq_true a
                    by_cases b : dPs f.params = []
                    · have l0 : (dPs f.params).length = 0 := by rw [b]; rfl
                      have hM : isMainT f = false := by simp [isMainT, a, b, hh]
                      have hi := ih (j + 1, f.cells, [.int .i64 0, .int .i64 0], [.str f.name, (mkL 4 (fldRows rs (dPs f.params))).view, .bool f.has, .int .i64 (typeT rs f.on f.od).1.b, .int .i64 (typeT rs f.on f.od).1.r, .int .i64 (typeT rs f.on f.od).1.d], (typeT rs f.on f.od).1.cells) ⟨by simp; omega, hb⟩ (by simp; omega)
                      simp only [hmk, hM, if_false, Bool.false_eq_true, FN.cells, hh] at hi
                      simp [hw, hfl, et, ha, ho, ea, l0, SOp.newBox, noFp]
                      simp only [Int.natCast_add, Int.natCast_one] at hi
                      exact hi
                    · have l0 : ¬ (dPs f.params).length = 0 := by simpa using b
                      have l1 : ((dPs f.params).length = 0) = False := eq_false l0
                      have hM : isMainT f = false := by simp [isMainT, a, b, hh]
                      have hi := ih (j + 1, f.cells, [.int .i64 0, .int .i64 0], [.str f.name, (mkL 4 (fldRows rs (dPs f.params))).view, .bool f.has, .int .i64 (typeT rs f.on f.od).1.b, .int .i64 (typeT rs f.on f.od).1.r, .int .i64 (typeT rs f.on f.od).1.d], (typeT rs f.on f.od).1.cells) ⟨by simp; omega, hb⟩ (by simp; omega)
                      simp only [hmk, hM, if_false, Bool.false_eq_true, FN.cells, hh] at hi
                      simp [hw, hfl, et, ha, ho, ea, l1, SOp.newBox, noFp]
                      simp only [Int.natCast_add, Int.natCast_one] at hi
                      exact hi
                  · have ea : (f.name = [109, 97, 105, 110]) = False := eq_false a
                    have hM : isMainT f = false := by simp [isMainT, a, hh]
                    have hi := ih (j + 1, f.cells, [.int .i64 0, .int .i64 0], [.str f.name, (mkL 4 (fldRows rs (dPs f.params))).view, .bool f.has, .int .i64 (typeT rs f.on f.od).1.b, .int .i64 (typeT rs f.on f.od).1.r, .int .i64 (typeT rs f.on f.od).1.d], (typeT rs f.on f.od).1.cells) ⟨by simp; omega, hb⟩ (by simp; omega)
                    simp only [hmk, hM, if_false, Bool.false_eq_true, FN.cells, hh] at hi
                    simp [hw, et, ha, ho, ea, SOp.newBox, noFp]
                    simp only [Int.natCast_add, Int.natCast_one] at hi
                    exact hi
        · have hkl : k = (dFNs p.funcs).length := by omega
          subst hkl
          have hmain : mainK (dFNs p.funcs) (dFNs p.funcs).length = mainI (dFNs p.funcs) := main_eq fun k hk => by
            have := firstB_all hD k hk hk
            exact (orF_nn (orF_nn this).1).1
          have h3 := f3D hA (hrs ▸ hB) (hrs ▸ hC) (hrs ▸ hD)
          by_cases hm : mainI (dFNs p.funcs) < 0
          · have hr : resH p = .tup [zeroH, .agg [.int .i64 3, .int .i64 0]] := by
              have : faultH p = some 0 := by unfold faultH; rw [if_pos hm, h3]; rfl
              unfold resH; rw [this]; rfl
            rw [hr]
            simp [f1, f2, f3, hmain, hm, e2, zeroH]
          · have hr : resH p = .tup [headsV p, .agg [.int .i64 0, .int .i64 0]] := by
              have : faultH p = none := by unfold faultH; rw [if_neg hm, h3]
              unfold resH; rw [this]; rfl
            rw [hr]
            simp [f1, f2, f3, hmain, hm, headsV, ← hrs, ← hGG, hGv, ← hRR, hGs, hRs]
end U7

namespace U7
open Ax Go Code7 V7
set_option maxRecDepth 100000
set_option maxHeartbeats 1000000

theorem nope_all {α : Type} {p : α → Bool} {l : List α} (h : nope p l l.length) : l.any p = false := by
  rw [List.any_eq_false]
  intro q hq
  obtain ⟨j, hj, rfl⟩ := List.mem_iff_getElem.1 hq
  simp [h j hj hj]
theorem nope_any {α : Type} {p : α → Bool} {l : List α} {k : Nat} (h1 : k < l.length) (hp : p l[k] = true) : l.any p = true :=
  List.any_eq_true.2 ⟨_, List.getElem_mem h1, hp⟩
def gR (r : CR) : Bool := decide (20 < (dPs r.fields).length)
def gF (r : FN) : Bool := decide (20 < (dPs r.params).length)
def greatT (p : GD) : Bool := decide (20 < (dCRs p.recs).length) || decide (20 < (dPs p.globals).length) || decide (20 < (dFNs p.funcs).length) || (dCRs p.recs).any gR || (dFNs p.funcs).any gF

theorem great_ok (wl lim : Nat) (p : GD) (st : Store) (hp : p.ok) : (orcL S).call wl lim 14 [.agg p.cells] st = some (.bool (greatT p), st) := by
  have p1 := isSl_CR hp.recs
  have p2 := isCRs_vw hp.recs
  have p3 := rowsL_CR hp.recs
  have pr := hp.recs
  have g1 := isSl_P hp.globals
  have g2 := isPs_vw hp.globals
  have g3 := rowsL_P hp.globals
  have f1 := isSl_FN hp.funcs
  have f2 := isFNs_vw hp.funcs
  have f3 := rowsL_FN hp.funcs
  have fr := hp.funcs
  refine call_pure (sf := s14) rfl rfl (by simp [GD.cells, AV.allPure, AV.isPure, p1, g1, f1]) rfl (by simp) ?_
  unfold greatT
  by_cases a1 : 20 < (dCRs p.recs).length
  · have b1 : (20 : Int) < ((dCRs p.recs).length : Int) := by omega
    simp [s14, GD.cells, p1, p2, p3, g1, f1, a1, b1]
  by_cases a2 : 20 < (dPs p.globals).length
  · have b1 : ¬ (20 : Int) < ((dCRs p.recs).length : Int) := by omega
    have b2 : (20 : Int) < ((dPs p.globals).length : Int) := by omega
    simp [s14, GD.cells, p1, p2, p3, g1, g2, g3, f1, a1, b1, a2, b2]
  by_cases a3 : 20 < (dFNs p.funcs).length
  · have b1 : ¬ (20 : Int) < ((dCRs p.recs).length : Int) := by omega
    have b2 : ¬ (20 : Int) < ((dPs p.globals).length : Int) := by omega
    have b3 : (20 : Int) < ((dFNs p.funcs).length : Int) := by omega
    simp [s14, GD.cells, p1, p2, p3, g1, g2, g3, f1, f2, f3, a1, b1, a2, b2, a3, b3]
  have b1 : ¬ (20 : Int) < ((dCRs p.recs).length : Int) := by omega
  have b2 : ¬ (20 : Int) < ((dPs p.globals).length : Int) := by omega
  have b3 : ¬ (20 : Int) < ((dFNs p.funcs).length : Int) := by omega
  simp [s14, GD.cells, p1, p2, p3, g1, g2, g3, f1, f2, f3, a1, b1, a2, b2, a3, b3]
  refine W_loopI s14_l0.eq_1 (fun k : Nat => ⟨[(1, .fp 0 0), (3, .val (.int .i64 k))], [[p.recs, p.globals, p.funcs]], []⟩)
    (fun k => k ≤ (dCRs p.recs).length ∧ nope gR (dCRs p.recs) k) (fun k => (dCRs p.recs).length - k) 0 (by simp) ⟨by simp, nope_zero⟩ ?_
  intro k ⟨hk, hn⟩ ih
  by_cases hlt : k < (dCRs p.recs).length
  · have hw : IntKind.i64.wrap ((k : Int) + 1) = ((k + 1 : Nat) : Int) := by rw [wrap64] <;> omega
    have hF := isCRs_get hp.recs _ (List.getElem_mem hlt)
    have hFs := isSl_P hF
    have hFv := isPs_vw hF
    have hFl := rowsL_P hF
    by_cases c : 20 < (dPs (dCRs p.recs)[k].fields).length
    · have d : (20 : Int) < ((dPs (dCRs p.recs)[k].fields).length : Int) := by omega
      have ha := nope_any (p := gR) hlt (by simp [gR, c])
      simp [p2, p3, pr, hlt, CR.cells, hFs, hFv, hFl, d, ha]
    · have d : ¬ (20 : Int) < ((dPs (dCRs p.recs)[k].fields).length : Int) := by omega
      simp [p2, p3, pr, hlt, CR.cells, hFs, hFv, hFl, d, hw]
      exact ih (k + 1) ⟨by omega, nope_succ hn hlt (by simp [gR, c])⟩ (by omega)
  · have hkl : k = (dCRs p.recs).length := by omega
    subst hkl
    have hA := nope_all hn
    simp [p1, p2, p3, hA]
    refine W_loopI s14_l1.eq_1 (fun k : Nat => ⟨[(1, .fp 0 0), (4, .val (.int .i64 k))], [[p.recs, p.globals, p.funcs]], []⟩)
      (fun k => k ≤ (dFNs p.funcs).length ∧ nope gF (dFNs p.funcs) k) (fun k => (dFNs p.funcs).length - k) 0 (by simp) ⟨by simp, nope_zero⟩ ?_
    intro k ⟨hk, hn⟩ ih
    by_cases hlt : k < (dFNs p.funcs).length
    · have hw : IntKind.i64.wrap ((k : Int) + 1) = ((k + 1 : Nat) : Int) := by rw [wrap64] <;> omega
      have hF := (isFNs_get hp.funcs _ (List.getElem_mem hlt)).1
      have hFs := isSl_P hF
      have hFv := isPs_vw hF
      have hFl := rowsL_P hF
      by_cases c : 20 < (dPs (dFNs p.funcs)[k].params).length
      · have d : (20 : Int) < ((dPs (dFNs p.funcs)[k].params).length : Int) := by omega
        have ha := nope_any (p := gF) hlt (by simp [gF, c])
        simp [f2, f3, fr, hlt, FN.cells, hFs, hFv, hFl, d, ha]
      · have d : ¬ (20 : Int) < ((dPs (dFNs p.funcs)[k].params).length : Int) := by omega
        simp [f2, f3, fr, hlt, FN.cells, hFs, hFv, hFl, d, hw]
        exact ih (k + 1) ⟨by omega, nope_succ hn hlt (by simp [gF, c])⟩ (by omega)
    · have hkl : k = (dFNs p.funcs).length := by omega
      subst hkl
      have hB := nope_all hn
      simp [f1, f2, f3, hB]

theorem great_sm {p : GD} (h : greatT p = false) : GD.sm p := by
  simp only [greatT, Bool.or_eq_false_iff, decide_eq_false_iff_not, List.any_eq_false, gR, gF, decide_eq_true_eq] at h
  obtain ⟨⟨⟨⟨h1, h2⟩, h3⟩, h4⟩, h5⟩ := h
  exact ⟨by omega, fun x hx => by have := h4 x hx; omega, by omega, by omega, fun x hx => by have := h5 x hx; omega⟩

theorem law_raw (p : GD) (hp : p.ok) : (orcL S).call 0 0 4 [.agg p.cells] [] = some (.bool true, []) := by
  have p1 := isSl_CR hp.recs
  have p2 := isCRs_vw hp.recs
  have g1 := isSl_P hp.globals
  have g2 := isPs_vw hp.globals
  have f1 := isSl_FN hp.funcs
  have f2 := isFNs_vw hp.funcs
  have hg := great_ok 0 0 p [] hp
  simp only [GD.cells] at hg
  refine call_pure (sf := s4) rfl rfl (by simp [GD.cells, AV.allPure, AV.isPure, p1, g1, f1]) rfl (by simp) ?_
  cases eg : greatT p with
  | true => simp [s4, GD.cells, p1, p2, g1, g2, f1, f2, hg, eg]
  | false =>
    have hs := great_sm eg
    have e1 := make_ok 0 0 p [] hp hs
    have e2 := rmake_ok 0 0 p [] hp hs
    have hz := sameZ
    have hh := same_ok 0 0 p [] hs
    unfold resH at e1 e2
    generalize faultH p = F at *
    cases F with
    | some y =>
      simp only [zeroH] at hz
      simp only [GD.cells, zeroH, fE, fX] at e1 e2
      simp [s4, GD.cells, p1, p2, g1, g2, f1, f2, hg, eg, e1, e2, hz, known0]
    | none =>
      simp only [GD.cells, headsV, fE, fX] at e1 e2 hh
      simp [s4, GD.cells, p1, p2, g1, g2, f1, f2, hg, eg, e1, e2, hh, known0]
end U7

namespace U7
open Ax Go Code7 V7
set_option maxRecDepth 100000
set_option maxHeartbeats 4000000

/-! ### Records the other way round: the plain law -/
def tu (n : Nat) (t : T3) : T3 := if t.b = 3 then ⟨t.b, (n : Int) - 1 - t.r, t.d⟩ else t

theorem pairwise_ne_rev {l : List (List UInt8)} (h : l.Pairwise (· ≠ ·)) : l.reverse.Pairwise (· ≠ ·) := by
  rw [List.pairwise_reverse]
  exact h.imp fun h => Ne.symm h
theorem idx_of {l : List (List UInt8)} (h : l.Pairwise (· ≠ ·)) {k : Nat} (hk : k < l.length) : idxS l l[k] = k := by
  refine idxS_at (k := k) ?_ hk rfl
  intro j hj hjk
  rw [List.pairwise_iff_getElem] at h
  simpa using h j k hj hk hjk
theorem idx_mem {l : List (List UInt8)} {s : List UInt8} (h : s ∉ l) : idxS l s = -1 := by
  refine idxS_none ?_
  intro j hj _
  have : l[j] ≠ s := fun e => h (e ▸ List.getElem_mem hj)
  simpa using this
theorem idx_rev {l : List (List UInt8)} (h : l.Pairwise (· ≠ ·)) (s : List UInt8) : (idxS l s < 0 ∧ idxS l.reverse s < 0) ∨ (0 ≤ idxS l s ∧ idxS l s < l.length ∧ idxS l.reverse s = (l.length : Int) - 1 - idxS l s) := by
  by_cases hm : s ∈ l
  · right
    obtain ⟨k, hk, rfl⟩ := List.mem_iff_getElem.1 hm
    have e1 := idx_of h hk
    have hk2 : l.length - 1 - k < l.reverse.length := by rw [List.length_reverse]; omega
    have e2 := idx_of (pairwise_ne_rev h) hk2
    have e3 : l.reverse[l.length - 1 - k] = l[k] := by
      rw [List.getElem_reverse]
      congr 1
      omega
    rw [e3] at e2
    rw [e1, e2]
    omega
  · left
    rw [idx_mem hm, idx_mem (by simpa using hm)]
    omega
theorem type_rev {l : List (List UInt8)} (h : l.Pairwise (· ≠ ·)) (s : List UInt8) (d : Int) : typeT l.reverse s d = (tu l.length (typeT l s d).1, (typeT l s d).2) := by
  unfold typeT
  split
  · rfl
  split
  · rfl
  split
  · rfl
  rcases idx_rev h s with ⟨h1, h2⟩ | ⟨h1, h2, h3⟩
  · rw [if_pos h1, if_pos h2]; rfl
  · rw [if_neg (by omega), if_neg (by omega), h3]; rfl
theorem type_in (l : List (List UInt8)) (s : List UInt8) (d : Int) : (typeT l s d).1.b = 3 → 0 ≤ (typeT l s d).1.r ∧ (typeT l s d).1.r < l.length := by
  unfold typeT
  split
  · intro h; cases h
  split
  · intro h; cases h
  split
  · intro h; cases h
  split
  · intro h; cases h
  · rename_i h
    intro _
    rcases idxS_ge l s with e | ⟨k, e, hk⟩
    · rw [e] at h; exact absurd (by decide) h
    · simp only; rw [e]; omega
theorem badP_rev {l : List (List UInt8)} (h : l.Pairwise (· ≠ ·)) : badP l.reverse = badP l := by
  funext before p
  unfold badP
  rw [type_rev h]
theorem firstB_none {α : Type} {bad : List α → α → Option Int} {l : List α} (h : ∀ k (hk : k < l.length), bad (l.take k) l[k] = none) : ∀ m, firstB bad l m = none
  | 0 => rfl
  | m + 1 => by
    unfold firstB
    rw [firstB_none h m]
    by_cases hm : m < l.length
    · rw [List.getElem?_eq_getElem hm]; exact h m hm
    · rw [List.getElem?_eq_none (by omega)]; rfl
theorem names_ne {l : List CR} (h : firstB badR l l.length = none) : (recN l).Pairwise (· ≠ ·) := by
  rw [List.pairwise_iff_getElem]
  intro i j hi hj hij
  have hj' : j < l.length := by simpa [recN] using hj
  have hi' : i < l.length := by omega
  have := firstB_all h j hj' hj'
  unfold badR at this
  intro e
  rw [if_pos] at this
  · cases this
  · rw [List.any_eq_true]
    refine ⟨l[i], List.mem_take_iff_getElem.2 ⟨i, by omega, rfl⟩, ?_⟩
    simpa [recN] using e
/-- Known heads are known the other way round, too. -/
theorem turn_none {p q : GD} (hr : dCRs q.recs = (dCRs p.recs).reverse) (hg : dPs q.globals = dPs p.globals) (hf : dFNs q.funcs = dFNs p.funcs) (h : faultH p = none) :
    (recN (dCRs p.recs)).Pairwise (· ≠ ·) ∧ faultH q = none ∧ recN (dCRs q.recs) = (recN (dCRs p.recs)).reverse := by
  have hrn : recN (dCRs q.recs) = (recN (dCRs p.recs)).reverse := by rw [hr]; simp [recN]
  unfold faultH at h
  have hm : ¬ mainI (dFNs p.funcs) < 0 := by
    intro hm
    rw [if_pos hm] at h
    exact absurd (orF_nn h).2 (by simp)
  rw [if_neg hm] at h
  unfold fault3 at h
  obtain ⟨h1, hS⟩ := orF_nn h
  obtain ⟨h2, hP⟩ := orF_nn h1
  obtain ⟨h3, hF⟩ := orF_nn h2
  obtain ⟨_, hR⟩ := orF_nn h3
  have hne := names_ne hR
  refine ⟨hne, ?_, hrn⟩
  unfold faultH
  rw [hf, if_neg hm]
  unfold fault3
  have a1 : firstB badR (dCRs q.recs) (dCRs q.recs).length = none := by
    refine firstB_none (fun k hk => ?_) _
    unfold badR
    rw [if_neg]
    intro e
    rw [List.any_eq_true] at e
    obtain ⟨x, hx, he⟩ := e
    obtain ⟨i, hi, rfl⟩ := List.mem_take_iff_getElem.1 hx
    have hn := pairwise_ne_rev hne
    rw [← hrn, List.pairwise_iff_getElem] at hn
    have := hn i k (by simp [recN]; omega) (by simpa [recN] using hk) (by omega)
    simp [recN] at this
    simp at he
    exact this he
  have a2 : firstB (badF (recN (dCRs q.recs))) (dCRs q.recs) (dCRs q.recs).length = none := by
    refine firstB_none (fun k hk => ?_) _
    unfold badF
    rw [hrn, badP_rev hne]
    have hmem : (dCRs q.recs)[k] ∈ dCRs p.recs := by
      have hin : ∀ x, x ∈ dCRs q.recs → x ∈ dCRs p.recs := fun x hx => by
        rw [hr] at hx
        exact List.mem_reverse.1 hx
      exact hin _ (List.getElem_mem hk)
    obtain ⟨i, hi, e⟩ := List.mem_iff_getElem.1 hmem
    rw [← e]
    exact firstB_all hF i hi hi
  have a3 : firstB (badP (recN (dCRs q.recs))) (dPs q.globals) (dPs q.globals).length = none := by rw [hrn, badP_rev hne, hg]; exact hP
  have a4 : firstB (badS (recN (dCRs q.recs))) (dFNs q.funcs) (dFNs q.funcs).length = none := by
    have : badS (recN (dCRs q.recs)) = badS (recN (dCRs p.recs)) := by
      funext before x
      unfold badS badT
      rw [hrn, badP_rev hne, type_rev hne]
    rw [this, hf]
    exact hS
  rw [a1, a2, a3, a4]
  rfl

theorem turned_ok (wl lim : Nat) (t : T3) (n : Nat) (st : Store) (hn : n < 1000) (h : t.b = 3 → 0 ≤ t.r ∧ t.r < n) : (orcL S).call wl lim 19 [.agg t.cells, .int .i64 n] st = some (.agg (tu n t).cells, st) := by
  obtain ⟨b, r, d⟩ := t
  refine call_pure (sf := s19) rfl rfl (by simp [AV.allPure, AV.isPure]) rfl (by simp [AV.allPure, AV.isPure]) ?_
  unfold tu
  by_cases hb : b = 3
  · simp only at h
    have h := h hb
    have w1 : IntKind.i64.wrap ((n : Int) - 1) = (n : Int) - 1 := by rw [wrap64] <;> omega
    have w2 : IntKind.i64.wrap ((n : Int) - 1 - r) = (n : Int) - 1 - r := by rw [wrap64] <;> omega
    simp [s19, hb, w1, w2, paste]
  · simp [s19, hb]
end U7
