/- Part of a proof. -/
import Derived.Test.YtkjajfhgdlhhhaaW

namespace U10
open Ax Go Code10
set_option maxRecDepth 100000
set_option maxHeartbeats 1000000
variable {st : Store} {p q v : Nat} {T : List (List Int)} {ids : List Nat}

def st0' (st : Store) (p n : Nat) : Store := st.set p (.rows 0 1 [[.mu (st.length + 2) 0]]) ++ [.rows 0 1 (List.replicate n [.int .i64 0]), .rows 0 1 [[.mu st.length 0]], .rows 0 1 [[.mu st.length 0]]]
def st1' (st : Store) (p q v : Nat) (ids : List Nat) (n : Nat) : Store := (st.set q (.rows (v + 1) 1 (ids.map (fun i => [.mu i 0]) ++ [[.mu st.length 0]]))).set p (.rows 0 1 [[.mu q (v + 1)]]) ++ [.rows 0 1 (List.replicate n [.int .i64 0]), .rows 0 1 [[.mu st.length 0]]]

theorem rp0 (h : Rp st p [] q v ids) (n : Nat) : Rp (st0' st p n) p ([] ++ [List.replicate n 0]) (st.length + 2) 0 (ids ++ [st.length]) ∧ Fr st (st0' st p n) [p] := by
  unfold st0'
  have ho := h.obj0
  have hpl0 : p < st.length := (List.getElem?_eq_some_iff.1 ho).1
  have hsp : ∀ x l, (st.set p x ++ l)[p]? = some x := fun x l => by
    rw [List.getElem?_append_left (by simpa using hpl0), List.getElem?_set_self hpl0]
  have hs2 : ∀ x a b c, (st.set p x ++ [a, b, c])[st.length + 2]? = some c := fun x a b c => by
    rw [List.getElem?_append_right (by simp)]
    simp
  have hid : ids = [] := List.eq_nil_of_length_eq_zero h.len
  subst hid
  have hpl : p < st.length := (List.getElem?_eq_some_iff.1 ho).1
  refine ⟨⟨by simp, ?_, fun _ => ?_, fun k hk hk2 => ?_, fun _ => by omega, by simp; omega, fun _ => by simp, by simp⟩, ⟨by simp, fun i hi hn => ?_⟩⟩
  · simpa using hsp _ _
  · simp
  · have : k = 0 := by simpa using hk
    subst this
    simp [ints]
  · have hne : p ≠ i := fun e => hn (by simp [e])
    rw [List.getElem?_append_left (by simpa using hi), List.getElem?_set_ne hne]

theorem rp1 (h : Rp st p T q v ids) (hT : T ≠ []) (n : Nat) : Rp (st1' st p q v ids n) p (T ++ [List.replicate n 0]) q (v + 1) (ids ++ [st.length]) ∧ Fr st (st1' st p q v ids n) [p, q] := by
  unfold st1'
  have ho := h.obj1 hT
  have hl := h.lst hT
  have hpq := h.pq hT
  have hpl : p < st.length := (List.getElem?_eq_some_iff.1 ho).1
  have hql : q < st.length := (List.getElem?_eq_some_iff.1 hl).1
  have hlen := h.len
  have hsp : ∀ y x l, ((st.set q y).set p x ++ l)[p]? = some x := fun y x l => by
    rw [List.getElem?_append_left (by simpa using hpl), List.getElem?_set_self (by simpa using hpl)]
  have hsq : ∀ y x l, ((st.set q y).set p x ++ l)[q]? = some y := fun y x l => by
    rw [List.getElem?_append_left (by simpa using hql), List.getElem?_set_ne hpq, List.getElem?_set_self hql]
  refine ⟨⟨by simp [hlen], ?_, fun _ => ?_, fun k hk hk2 => ?_, fun _ => hpq, ?_, fun _ => ?_, ?_⟩, ⟨by simp, fun i hi hn => ?_⟩⟩
  · simpa using hsp _ _ _
  · simpa using hsq _ _ _
  · by_cases e : k < ids.length
    · have hk3 : k < T.length := by omega
      have h1 : (ids ++ [st.length])[k] = ids[k] := List.getElem_append_left e
      have h2 : (T ++ [List.replicate n 0])[k] = T[k] := List.getElem_append_left hk3
      have hp : p ≠ ids[k] := fun e2 => h.pn (e2 ▸ List.getElem_mem e)
      have hq : q ≠ ids[k] := fun e2 => h.qn hT (e2 ▸ List.getElem_mem e)
      have hi := h.el k e hk3
      rw [h1, h2, List.getElem?_append_left (by simpa using (List.getElem?_eq_some_iff.1 hi).1), List.getElem?_set_ne hp, List.getElem?_set_ne hq]
      exact hi
    · have : k = ids.length := by simp at hk; omega
      subst this
      simp [ints, hlen]
  · simp; exact ⟨h.pn, by omega⟩
  · simp; exact ⟨h.qn hT, by omega⟩
  · refine List.nodup_append.2 ⟨h.nd, by simp, fun a ha b hb => ?_⟩
    simp at hb
    subst hb
    intro e
    subst e
    obtain ⟨k, hk, e⟩ := List.mem_iff_getElem.1 ha
    have := (List.getElem?_eq_some_iff.1 (h.el k hk (by omega))).1
    omega
  · have hne : p ≠ i := fun e => hn (by simp [e])
    have hne2 : q ≠ i := fun e => hn (by simp [e])
    rw [List.getElem?_append_left (by simpa using hi), List.getElem?_set_ne hne, List.getElem?_set_ne hne2]

theorem w12_0 (h : Rp st p [] q v ids) (n : Nat) (hn : n ≤ 50) (lim : Nat) (hl1 : lim ≤ p) : (orcL S).call 0 lim 12 [.ptr p 0 0 0, .int .i64 n] st = some (.tup [.int .i64 1, .int .i64 0], st0' st p n) := by
  unfold st0'
  have ho := h.obj0
  have hoA := fun l => app_some ho l
  have hsA := fun l y => app_set ho l y
  have hpl0 : p < st.length := (List.getElem?_eq_some_iff.1 ho).1
  have hsp : ∀ x l, (st.set p x ++ l)[p]? = some x := fun x l => by
    rw [List.getElem?_append_left (by simpa using hpl0), List.getElem?_set_self hpl0]
  have hs2 : ∀ x a b c, (st.set p x ++ [a, b, c])[st.length + 2]? = some c := fun x a b c => by
    rw [List.getElem?_append_right (by simp)]
    simp
  have hc : (n : Int) * 8 ≤ room := by unfold room; omega
  have hc2 : n * 8 ≤ room := by unfold room; omega
  have g1 : (st ++ [AObj.rows 0 1 (List.replicate n [.int .i64 0]), .rows 0 1 [[.mu st.length 0]]])[st.length + 1]? = some (.rows 0 1 [[.mu st.length 0]]) := by simp
  have ga := fun bx => a_app0 (lim := lim) (bx := bx) g1
  refine call_run (sf := s12) rfl rfl rfl ?_
  have n0 : ¬ ((n : Int) < 0) := by omega
  have n1 : ¬ ((50 : Int) < (n : Int)) := by omega
  simp [s12, n0, n1]
  rw [W_drawP]
  simp [evalRec, ho, cut, hl1, hoA, hsA, hc, a_litM, ga, pairOk, readsSame, mayWrite, AV.allPure, AV.isPure, paste, boxOk, SOp.newBox]
  refine ⟨_, _, ⟨rfl, rfl⟩, ?_⟩
  simp [ho, cut, hoA, oneOrAgg, AV.viewL, AV.view, Ent.same, AV.same, hsp]

theorem w12_1 (h : Rp st p T q v ids) (hT : T ≠ []) (hr : T.length < 1000000) (n : Nat) (hn : n ≤ 50) (lim : Nat) (hl1 : lim ≤ p) (hl2 : lim ≤ q) : (orcL S).call 0 lim 12 [.ptr p 0 0 0, .int .i64 n] st = some (.tup [.int .i64 ((T.length : Int) + 1), .int .i64 0], st1' st p q v ids n) := by
  unfold st1'
  have ho := h.obj1 hT
  have hl := h.lst hT
  have hpq := h.pq hT
  have hoA := fun l => app_some ho l
  have hlA := fun l => app_some hl l
  have hpl : p < st.length := (List.getElem?_eq_some_iff.1 ho).1
  have hql : q < st.length := (List.getElem?_eq_some_iff.1 hl).1
  have hsQ := fun l y => app_set hl l y
  have hoQ : ∀ y, (st.set q y)[p]? = some (.rows 0 1 [[.mu q v]]) := fun y => by rw [List.getElem?_set_ne hpq.symm]; exact ho
  have hoQA := fun y l => app_some (hoQ y) l
  have hsP := fun y l z => app_set (hoQ y) l z
  have hlen := h.len
  have hsp : ∀ y x l, ((st.set q y).set p x ++ l)[p]? = some x := fun y x l => by
    rw [List.getElem?_append_left (by simpa using hpl), List.getElem?_set_self (by simpa using hpl)]
  have hsq : ∀ y x l, ((st.set q y).set p x ++ l)[q]? = some y := fun y x l => by
    rw [List.getElem?_append_left (by simpa using hql), List.getElem?_set_ne hpq, List.getElem?_set_self hql]
  have hc : (n : Int) * 8 ≤ room := by unfold room; omega
  have hc2 : n * 8 ≤ room := by unfold room; omega
  have g1 : (st ++ [AObj.rows 0 1 (List.replicate n [.int .i64 0]), .rows 0 1 [[.mu st.length 0]]])[st.length + 1]? = some (.rows 0 1 [[.mu st.length 0]]) := by simp
  have ga := fun bx => a_appM (lim := lim) (bx := bx) g1 (hlA _) (by simp [hlen, room]; omega) hl2
  refine call_run (sf := s12) rfl rfl rfl ?_
  have n0 : ¬ ((n : Int) < 0) := by omega
  have n1 : ¬ ((50 : Int) < (n : Int)) := by omega
  simp [s12, n0, n1]
  rw [W_drawP]
  simp [evalRec, ho, cut, hl1, hsQ, hoQA, hsP, hc, a_litM, ga, pairOk, readsSame, mayWrite, AV.allPure, AV.isPure, paste, boxOk, SOp.newBox]
  refine ⟨_, _, ⟨rfl, rfl⟩, ?_⟩
  simp [ho, cut, hoA, oneOrAgg, AV.viewL, AV.view, Ent.same, AV.same, hsp, hsq, hlen]

theorem w10_0 (h : Rp st p [] q v ids) (n : Nat) (hn : n ≤ 50) (m : Int) (hcl1 : (if (if 8 < m then 8 else m) < 0 then (0 : Int) else (if 8 < m then 8 else m)) = n) (hcl2 : (if 0 < (if 8 < m then 8 else m) then (if 8 < m then 8 else m) else (0 : Int)) = n) (lim : Nat) (hl1 : lim ≤ p) : (orcL S).call 0 lim 10 [.ptr p 0 0 0, .int .i64 m] st = some (.int .i64 1, st0' st p n) := by
  unfold st0'
  have ho := h.obj0
  have hoA := fun l => app_some ho l
  have hsA := fun l y => app_set ho l y
  have hpl0 : p < st.length := (List.getElem?_eq_some_iff.1 ho).1
  have hsp : ∀ x l, (st.set p x ++ l)[p]? = some x := fun x l => by
    rw [List.getElem?_append_left (by simpa using hpl0), List.getElem?_set_self hpl0]
  have hs2 : ∀ x a b c, (st.set p x ++ [a, b, c])[st.length + 2]? = some c := fun x a b c => by
    rw [List.getElem?_append_right (by simp)]
    simp
  have hc : (n : Int) * 8 ≤ room := by unfold room; omega
  have hc2 : n * 8 ≤ room := by unfold room; omega
  have g1 : (st ++ [AObj.rows 0 1 (List.replicate n [.int .i64 0]), .rows 0 1 [[.mu st.length 0]]])[st.length + 1]? = some (.rows 0 1 [[.mu st.length 0]]) := by simp
  have ga := fun bx => a_app0 (lim := lim) (bx := bx) g1
  refine call_run (sf := s10) rfl rfl rfl ?_
  simp [s10]
  rw [W_drawP]
  simp [evalRec, ho, cut, hl1, hoA, hsA, hc, a_litM, ga, pairOk, readsSame, mayWrite, AV.allPure, AV.isPure, paste, boxOk, SOp.newBox, hcl2]
  refine ⟨_, _, ⟨rfl, rfl⟩, ?_⟩
  simp [ho, cut, hoA, oneOrAgg, AV.viewL, AV.view, Ent.same, AV.same, hsp]

theorem w10_1 (h : Rp st p T q v ids) (hT : T ≠ []) (hr : T.length < 1000000) (n : Nat) (hn : n ≤ 50) (m : Int) (hcl1 : (if (if 8 < m then 8 else m) < 0 then (0 : Int) else (if 8 < m then 8 else m)) = n) (hcl2 : (if 0 < (if 8 < m then 8 else m) then (if 8 < m then 8 else m) else (0 : Int)) = n) (lim : Nat) (hl1 : lim ≤ p) (hl2 : lim ≤ q) : (orcL S).call 0 lim 10 [.ptr p 0 0 0, .int .i64 m] st = some (.int .i64 ((T.length : Int) + 1), st1' st p q v ids n) := by
  unfold st1'
  have ho := h.obj1 hT
  have hl := h.lst hT
  have hpq := h.pq hT
  have hoA := fun l => app_some ho l
  have hlA := fun l => app_some hl l
  have hpl : p < st.length := (List.getElem?_eq_some_iff.1 ho).1
  have hql : q < st.length := (List.getElem?_eq_some_iff.1 hl).1
  have hsQ := fun l y => app_set hl l y
  have hoQ : ∀ y, (st.set q y)[p]? = some (.rows 0 1 [[.mu q v]]) := fun y => by rw [List.getElem?_set_ne hpq.symm]; exact ho
  have hoQA := fun y l => app_some (hoQ y) l
  have hsP := fun y l z => app_set (hoQ y) l z
  have hlen := h.len
  have hsp : ∀ y x l, ((st.set q y).set p x ++ l)[p]? = some x := fun y x l => by
    rw [List.getElem?_append_left (by simpa using hpl), List.getElem?_set_self (by simpa using hpl)]
  have hsq : ∀ y x l, ((st.set q y).set p x ++ l)[q]? = some y := fun y x l => by
    rw [List.getElem?_append_left (by simpa using hql), List.getElem?_set_ne hpq, List.getElem?_set_self hql]
  have hc : (n : Int) * 8 ≤ room := by unfold room; omega
  have hc2 : n * 8 ≤ room := by unfold room; omega
  have g1 : (st ++ [AObj.rows 0 1 (List.replicate n [.int .i64 0]), .rows 0 1 [[.mu st.length 0]]])[st.length + 1]? = some (.rows 0 1 [[.mu st.length 0]]) := by simp
  have ga := fun bx => a_appM (lim := lim) (bx := bx) g1 (hlA _) (by simp [hlen, room]; omega) hl2
  refine call_run (sf := s10) rfl rfl rfl ?_
  simp [s10]
  rw [W_drawP]
  simp [evalRec, ho, cut, hl1, hsQ, hoQA, hsP, hc, a_litM, ga, pairOk, readsSame, mayWrite, AV.allPure, AV.isPure, paste, boxOk, SOp.newBox, hcl2]
  refine ⟨_, _, ⟨rfl, rfl⟩, ?_⟩
  simp [ho, cut, hoA, oneOrAgg, AV.viewL, AV.view, Ent.same, AV.same, hsp, hsq, hlen]
end U10

namespace U10
open Ax Go Code10
set_option maxRecDepth 100000
set_option maxHeartbeats 1000000
variable {st : Store} {p q v : Nat} {T : List (List Int)} {ids : List Nat}

theorem clamp_1 (m : Int) : (if (if 8 < m then 8 else m) < 0 then (0 : Int) else (if 8 < m then 8 else m)) = (clampN m : Int) := by
  unfold clampN; repeat' split
  all_goals omega
theorem clamp_2 (m : Int) : (if 0 < (if 8 < m then 8 else m) then (if 8 < m then 8 else m) else (0 : Int)) = (clampN m : Int) := by
  unfold clampN; repeat' split
  all_goals omega

theorem wlen_ok (wl lim : Nat) (h : Rp st p T q v ids) (ref : Int) (hr : T.length < 1000000000) :
    (orcL S).call wl lim 18 [.ptr p 0 0 0, .int .i64 ref] st = some (if 1 ≤ ref ∧ ref ≤ (T.length : Int) then .tup [.int .i64 (T.getD (ref - 1).toNat []).length, .int .i64 0] else .tup [.int .i64 0, .int .i64 1], st) := by
  refine call_run (sf := s18) rfl rfl rfl ?_
  by_cases r0 : ref < 1
  · have : ¬ (1 ≤ ref ∧ ref ≤ (T.length : Int)) := by omega
    rw [if_neg this]
    simp [s18, r0]
  by_cases hT : T = []
  · subst hT
    have : ¬ (1 ≤ ref ∧ ref ≤ (([] : List (List Int)).length : Int)) := by simp; omega
    rw [if_neg this]
    have h0 : 0 < ref := by omega
    simp [s18, r0, h.obj0, cut, h0]
  · have ho := h.obj1 hT
    have hl := h.lst hT
    have hlen := h.len
    by_cases r1 : (T.length : Int) < ref
    · have : ¬ (1 ≤ ref ∧ ref ≤ (T.length : Int)) := by omega
      rw [if_neg this]
      simp [s18, r0, ho, hl, cut, hlen, r1]
    · obtain ⟨k, rfl⟩ : ∃ k : Nat, ref = (k : Int) + 1 := ⟨(ref - 1).toNat, by omega⟩
      have hk : k < ids.length := by omega
      have hk2 : k < T.length := by omega
      have : 1 ≤ (k : Int) + 1 ∧ (k : Int) + 1 ≤ (T.length : Int) := by omega
      rw [if_pos this]
      have hw : IntKind.i64.wrap (k : Int) = (k : Int) := by rw [wrap64] <;> omega
      have e1 : ((k : Int) + 1 - 1).toNat = k := by omega
      have hgt : T.getD k [] = T[k] := by simp only [List.getD_eq_getElem?_getD, List.getElem?_eq_getElem hk2, Option.getD_some]
      have he := h.el k hk hk2
      rw [e1, hgt]
      simp [s18, r0, ho, hl, cut, hlen, r1, hw, hk2, he]

theorem wload_ok (wl lim : Nat) (h : Rp st p T q v ids) (ref i : Int) (hr : T.length < 1000000000) :
    (orcL S).call wl lim 14 [.ptr p 0 0 0, .int .i64 ref, .int .i64 i] st = some (.tup [.int .i64 (if trapOf T ref i = 0 then (T.getD (ref - 1).toNat []).getD i.toNat 0 else 0), .int .i64 (trapOf T ref i)], st) := by
  have hL := fun wl lim => wlen_ok wl lim h ref hr
  refine call_run (sf := s14) rfl rfl rfl ?_
  by_cases c : 1 ≤ ref ∧ ref ≤ (T.length : Int)
  · simp only [if_pos c] at hL
    obtain ⟨k, rfl⟩ : ∃ k : Nat, ref = (k : Int) + 1 := ⟨(ref - 1).toNat, by omega⟩
    have hk2 : k < T.length := by omega
    have hk : k < ids.length := by rw [h.len]; exact hk2
    have hT : T ≠ [] := by intro e; subst e; simp at hk2
    have ho := h.obj1 hT
    have hl := h.lst hT
    have hlen := h.len
    have e1 : ((k : Int) + 1 - 1).toNat = k := by omega
    have hgt : T.getD k [] = T[k] := by simp only [List.getD_eq_getElem?_getD, List.getElem?_eq_getElem hk2, Option.getD_some]
    have he := h.el k hk hk2
    have hw : IntKind.i64.wrap (k : Int) = (k : Int) := by rw [wrap64] <;> omega
    rw [e1, hgt] at hL
    by_cases i0 : i < 0
    · have ht : trapOf T ((k : Int) + 1) i = 2 := by unfold trapOf; rw [if_pos c, if_neg (by omega)]
      rw [ht, if_neg (by decide)]
      simp [s14, hL, i0]
    by_cases i1 : (T[k].length : Int) ≤ i
    · have ht : trapOf T ((k : Int) + 1) i = 2 := by unfold trapOf; rw [if_pos c, e1, hgt, if_neg (by omega)]
      rw [ht, if_neg (by decide)]
      simp [s14, hL, i0, i1]
    · obtain ⟨j, rfl⟩ : ∃ j : Nat, i = j := ⟨i.toNat, by omega⟩
      have hj : j < T[k].length := by omega
      have ht : trapOf T ((k : Int) + 1) j = 0 := by unfold trapOf; rw [if_pos c, e1, hgt, if_pos (by omega)]
      rw [ht, if_pos rfl, e1, hgt]
      simp [s14, hL, i0, i1, ho, hl, cut, hlen, hw, hk2, he, hj]
  · have ht : trapOf T ref i = 1 := by unfold trapOf; rw [if_neg c]
    simp only [if_neg c] at hL
    rw [ht, if_neg (by decide)]
    simp [s14, hL]

theorem wput_ok (h : Rp st p T q v ids) (ref i x : Int) (hr : T.length < 1000000000) :
    ∃ st', (∀ lim, (orcL S).call 0 lim 16 [.ptr p 0 0 0, .int .i64 ref, .int .i64 i, .int .i64 x] st = some (.int .i64 (trapOf T ref i), st')) ∧ Rp st' p (putT T ref i x) q v ids ∧ Fr st st' ids ∧ st'.length = st.length := by
  have hc := fun wl lim => wload_ok wl lim h ref i hr
  by_cases ht : trapOf T ref i = 0
  · obtain ⟨k, hk2, rfl, j, hj, rfl⟩ := trap_at ht
    have hk : k < ids.length := by rw [h.len]; exact hk2
    have hT : T ≠ [] := by intro e; subst e; simp at hk2
    have ho := h.obj1 hT
    have hl := h.lst hT
    have hlen := h.len
    have he := h.el k hk hk2
    have e1 : ((k : Int) + 1 - 1).toNat = k := by omega
    have hgt : T.getD k [] = T[k] := by simp only [List.getD_eq_getElem?_getD, List.getElem?_eq_getElem hk2, Option.getD_some]
    have hs : (ints T[k]).set j [.int .i64 x] = ints (T[k].set j x) := by simp [ints, List.map_set]
    have hlt : ids[k] < st.length := (List.getElem?_eq_some_iff.1 he).1
    have htk : ∀ y, List.take st.length (st.set ids[k] y) = st.set ids[k] y := fun y => List.take_of_length_le (by simp)
    have hw : IntKind.i64.wrap (k : Int) = (k : Int) := by rw [wrap64] <;> omega
    refine ⟨st.set ids[k] (.rows 0 1 (ints (T[k].set j x))), fun lim => ?_, ?_, ⟨by simp, fun i hi hn => ?_⟩, by simp⟩
    · refine call_run (sf := s16) rfl rfl rfl ?_
      rw [ht] at hc ⊢
      simp [s16, hc, ho, hl, he, cut, hj, hlen, hw, hk2, mayWrite, AV.allPure, AV.isPure, paste, hs, htk]
    · unfold putT
      rw [if_pos ht, e1, hgt]
      exact h.put hk2 hk _
    · have : ids[k] ≠ i := fun e => hn (e ▸ List.getElem_mem hk)
      exact List.getElem?_set_ne this
  · refine ⟨st, fun lim => ?_, ?_, ⟨Nat.le_refl _, fun _ _ _ => rfl⟩, rfl⟩
    · refine call_run (sf := s16) rfl rfl rfl ?_
      rw [if_neg ht] at hc
      simp [s16, hc, ht]
    · unfold putT; rw [if_neg ht]; exact h

/-! ### Two Stores beside each other -/
theorem Rp.frame {st' : Store} {F : List Nat} (h : Rp st p T q v ids) (hf : Fr st st' F) (hp : p ∉ F) (hq : q ∉ F) (hi : ∀ i ∈ ids, i ∉ F) : Rp st' p T q v ids := by
  have k : ∀ {i : Nat} {x : AObj}, st[i]? = some x → i ∉ F → st'[i]? = some x := fun {i x} h1 h2 => by
    rw [hf.2 i (List.getElem?_eq_some_iff.1 h1).1 h2]; exact h1
  exact ⟨h.len, k h.obj hp, fun hT => k (h.lst hT) hq, fun m hm hm2 => k (h.el m hm hm2) (hi _ (List.getElem_mem hm)), h.pq, h.pn, h.qn, h.nd⟩

/-- What one Store holds, the other does not. -/
structure Dj (n : Nat) (A B : List Nat) : Prop where
  ne : ∀ a ∈ A, a ∉ B
  la : ∀ a ∈ A, a < n
  lb : ∀ b ∈ B, b < n
theorem Dj.symm {n : Nat} {A B : List Nat} (h : Dj n A B) : Dj n B A := ⟨fun b hb ha => h.ne b ha hb, h.lb, h.la⟩
theorem Dj.step {n m : Nat} {A A' B : List Nat} (h : Dj n A B) (hm : n ≤ m) (hA : ∀ a ∈ A', a ∈ A ∨ (n ≤ a ∧ a < m)) : Dj m A' B :=
  ⟨fun a ha hb => by
    rcases hA a ha with h1 | h1
    · exact h.ne a h1 hb
    · have := h.lb a hb; omega, fun a ha => by
    rcases hA a ha with h1 | h1
    · have := h.la a h1; omega
    · exact h1.2, fun b hb => by have := h.lb b hb; omega⟩
end U10

namespace U10
open Ax Go Code10
set_option maxRecDepth 100000
set_option maxHeartbeats 1000000
variable {st : Store} {p q v : Nat} {T : List (List Int)} {ids : List Nat}

theorem Rp.last {st' : Store} {n q' v' : Nat} {l : List Int} (h : Rp st' p (T ++ [l]) q' v' (ids ++ [n])) : n < st'.length := by
  have hk : ids.length < (ids ++ [n]).length := by simp
  have := h.el ids.length hk (by have := h.len; simp at this ⊢; omega)
  have e : (ids ++ [n])[ids.length] = n := by simp
  rw [e] at this
  exact (List.getElem?_eq_some_iff.1 this).1

theorem wrec_ok (h : Rp st p T q v ids) (m : Int) (hr : T.length < 1000000) :
    ∃ st' q' v', (∀ lim, lim ≤ p → lim ≤ q → (orcL S).call 0 lim 10 [.ptr p 0 0 0, .int .i64 m] st = some (.int .i64 ((T.length : Int) + 1), st')) ∧ Rp st' p (T ++ [List.replicate (clampN m) 0]) q' v' (ids ++ [st.length]) ∧
      Fr st st' [p, q] ∧ (T ≠ [] → q' = q) ∧ (T = [] → st.length ≤ q' ∧ q' < st'.length) := by
  by_cases hT : T = []
  · subst hT
    obtain ⟨h1, h2⟩ := rp0 h (clampN m)
    refine ⟨_, _, _, fun lim l1 l2 => w10_0 h (clampN m) (by unfold clampN; split <;> (try split) <;> omega) m (clamp_1 m) (clamp_2 m) lim l1, h1, ⟨h2.1, fun i hi hni => h2.2 i hi fun hm => hni ?_⟩, fun e => absurd rfl e, fun _ => ⟨by omega, by simp [st0']⟩⟩
    simp at hm
    simp [hm]
  · obtain ⟨h1, h2⟩ := rp1 h hT (clampN m)
    exact ⟨_, _, _, fun lim l1 l2 => w10_1 h hT hr (clampN m) (by unfold clampN; split <;> (try split) <;> omega) m (clamp_1 m) (clamp_2 m) lim l1 l2, h1, h2, fun _ => rfl, fun e => absurd e hT⟩

theorem warr_ok (h : Rp st p T q v ids) (n : Nat) (hn : n ≤ 50) (hr : T.length < 1000000) :
    ∃ st' q' v', (∀ lim, lim ≤ p → lim ≤ q → (orcL S).call 0 lim 12 [.ptr p 0 0 0, .int .i64 n] st = some (.tup [.int .i64 ((T.length : Int) + 1), .int .i64 0], st')) ∧ Rp st' p (T ++ [List.replicate n 0]) q' v' (ids ++ [st.length]) ∧
      Fr st st' [p, q] ∧ (T ≠ [] → q' = q) ∧ (T = [] → st.length ≤ q' ∧ q' < st'.length) := by
  by_cases hT : T = []
  · subst hT
    obtain ⟨h1, h2⟩ := rp0 h n
    refine ⟨_, _, _, fun lim l1 l2 => w12_0 h n hn lim l1, h1, ⟨h2.1, fun i hi hni => h2.2 i hi fun hm => hni ?_⟩, fun e => absurd rfl e, fun _ => ⟨by omega, by simp [st0']⟩⟩
    simp at hm
    simp [hm]
  · obtain ⟨h1, h2⟩ := rp1 h hT n
    exact ⟨_, _, _, fun lim l1 l2 => w12_1 h hT hr n hn lim l1 l2, h1, h2, fun _ => rfl, fun e => absurd e hT⟩

theorem warr_no (wl lim : Nat) (n : Int) (st : Store) (hn : n < 0 ∨ 50 < n) : (orcL S).call wl lim 12 [.ptr p 0 0 0, .int .i64 n] st = some (.tup [.int .i64 0, .int .i64 4], st) := by
  refine call_run (sf := s12) rfl rfl rfl ?_
  by_cases n0 : n < 0
  · simp [s12, n0]
  · have n1 : 50 < n := by omega
    simp [s12, n0, n1]

/-- Two Stores with the same things. -/
structure Pr (st : Store) (T : List (List Int)) (q1 v1 : Nat) (ids1 : List Nat) (q2 v2 : Nat) (ids2 : List Nat) : Prop where
  r1 : Rp st 0 T q1 v1 ids1
  r2 : Rp st 1 T q2 v2 ids2
  dj : Dj st.length (0 :: q1 :: ids1) (1 :: q2 :: ids2)

theorem Pr.both {st1 st2 : Store} {T' : List (List Int)} {q1 v1 q2 v2 q1' v1' q2' v2' : Nat} {ids1 ids2 ids1' ids2' : List Nat} (h : Pr st T q1 v1 ids1 q2 v2 ids2)
    {F G : List Nat} (a1 : Rp st1 0 T' q1' v1' ids1') (a2 : Fr st st1 F) (a3 : ∀ x ∈ F, x ∈ 0 :: q1 :: ids1) (a4 : ∀ x ∈ 0 :: q1' :: ids1', x ∈ 0 :: q1 :: ids1 ∨ (st.length ≤ x ∧ x < st1.length))
    (b : ∀ h2 : Rp st1 1 T q2 v2 ids2, Rp st2 1 T' q2' v2' ids2' ∧ Fr st1 st2 G ∧ (∀ x ∈ G, x ∈ 1 :: q2 :: ids2) ∧ (∀ x ∈ 1 :: q2' :: ids2', x ∈ 1 :: q2 :: ids2 ∨ (st1.length ≤ x ∧ x < st2.length))) :
    Pr st2 T' q1' v1' ids1' q2' v2' ids2' := by
  have nF : ∀ x ∈ 1 :: q2 :: ids2, x ∉ F := fun x hx hf => h.dj.ne x (a3 x hf) hx
  have r2' := h.r2.frame a2 (nF 1 (by simp)) (nF q2 (by simp)) (fun i hi => nF i (by simp [hi]))
  obtain ⟨b1, b2, b3, b4⟩ := b r2'
  have d1 := h.dj.step a2.1 a4
  have nG : ∀ x ∈ 0 :: q1' :: ids1', x ∉ G := fun x hx hg => d1.ne x hx (b3 x hg)
  have r1' := a1.frame b2 (nG 0 (by simp)) (nG q1' (by simp)) (fun i hi => nG i (by simp [hi]))
  exact ⟨r1', b1, (d1.symm.step b2.1 b4).symm⟩

theorem Pr.r2f {st1 : Store} {q1 v1 q2 v2 : Nat} {ids1 ids2 : List Nat} (h : Pr st T q1 v1 ids1 q2 v2 ids2) {F : List Nat} (a2 : Fr st st1 F) (a3 : ∀ x ∈ F, x ∈ 0 :: q1 :: ids1) : Rp st1 1 T q2 v2 ids2 := by
  have nF : ∀ x ∈ 1 :: q2 :: ids2, x ∉ F := fun x hx hf => h.dj.ne x (a3 x hf) hx
  exact h.r2.frame a2 (nF 1 (by simp)) (nF q2 (by simp)) (fun i hi => nF i (by simp [hi]))
theorem sub2 {a b : Nat} {l : List Nat} : ∀ x ∈ [a, b], x ∈ a :: b :: l := by
  intro x hx
  simp only [List.mem_cons, List.not_mem_nil, or_false] at hx ⊢
  rcases hx with h | h
  · exact .inl h
  · exact .inr (.inl h)
theorem foot {st' : Store} {l : List Int} {q' v' : Nat} (h1 : Rp st' p (T ++ [l]) q' v' (ids ++ [st.length])) (h2 : T ≠ [] → q' = q) (h3 : T = [] → st.length ≤ q' ∧ q' < st'.length) : ∀ x ∈ p :: q' :: (ids ++ [st.length]), x ∈ p :: q :: ids ∨ (st.length ≤ x ∧ x < st'.length) := by
  have hl := h1.last
  intro x hx
  simp only [List.mem_cons, List.mem_append, List.not_mem_nil, or_false] at hx ⊢
  rcases hx with h | h | h | h
  · left; left; exact h
  · by_cases hT : T = []
    · right; rw [h]; exact h3 hT
    · left; right; left; rw [h]; exact h2 hT
  · left; right; right; exact h
  · right; omega

/-! ### What is done -/
structure AC where
  k : Int
  a : Int
  b : Int
  c : Int
def AC.cells (x : AC) : List AV := [.int .i64 x.k, .int .i64 x.a, .int .i64 x.b, .int .i64 x.c]
def acRow (r : List AV) : Bool := match r with | [.int .i64 _, .int .i64 _, .int .i64 _, .int .i64 _] => true | _ => false
def dAC (r : List AV) : AC := match r with | [.int .i64 a, .int .i64 b, .int .i64 c, .int .i64 d] => ⟨a, b, c, d⟩ | _ => ⟨0, 0, 0, 0⟩
theorem acRow_eq (r : List AV) (h : acRow r = true) : r = (dAC r).cells := by
  unfold acRow at h
  split at h
  · rfl
  · cases h
def isACs (v : AV) : Bool := V7.isRows 4 acRow v
def dACs (v : AV) : List AC := (rowsL v).map dAC
theorem rowsL_AC {v : AV} (h : isACs v = true) : rowsL v = (dACs v).map AC.cells := V7.rows_map h acRow_eq
theorem isSz_AC {v : AV} (h : isACs v = true) : isSz 4 v = true := V7.isRows_sz h

theorem law_plays (w : AV) (hw : isACs w = true) : (orcL S).call 0 0 3 [w] [] = some (.bool true, []) := by
  have w2 := isSz_AC hw
  have w1 := isSl_sz w2
  have w3 := rowsL_AC hw
  have wv := V7.isRows_vw hw
  refine call_pure (sf := s3) rfl rfl (by simp [pure_sl w1]) rfl (by simp) ?_
  have hn := new_ok 0 0 []
  simp only [List.nil_append, List.length_nil] at hn
  have hi0 : Pr [.rows 0 1 [[.nilSl]], .rows 0 1 [[.nilSl]]] [] 0 0 [] 1 0 [] := ⟨⟨rfl, rfl, fun h => absurd rfl h, fun k h => by simp at h, fun h => absurd rfl h, by simp, fun h => absurd rfl h, by simp⟩,
    ⟨rfl, rfl, fun h => absurd rfl h, fun k h => by simp at h, fun h => absurd rfl h, by simp, fun h => absurd rfl h, by simp⟩, ⟨by simp, by simp, by simp⟩⟩
  simp [s3, hn, AV.allCells]
  refine W_loopI s3_l0.eq_1 (fun s : Nat × List AV × Store => ⟨[(0, .val w), (3, .val (.ptr 0 0 0 0)), (4, .val (.ptr 1 0 0 0)), (5, .val (.int .i64 s.1))], [s.2.1], s.2.2⟩)
    (fun s => s.1 ≤ (dACs w).length ∧ s.1 ≤ 200 ∧ ∃ T q1 v1 ids1 q2 v2 ids2, T.length ≤ s.1 ∧ Pr s.2.2 T q1 v1 ids1 q2 v2 ids2) (fun s => (dACs w).length - s.1) ((0, [], [.rows 0 1 [[.nilSl]], .rows 0 1 [[.nilSl]]]) : Nat × List AV × Store) (by simp) ⟨by simp, by simp, [], 0, 0, [], 1, 0, [], by simp, hi0⟩ ?_
  rintro ⟨i, bb, st⟩ ⟨hi, hi2, T, q1, v1, ids1, q2, v2, ids2, hTi, hr⟩ ih
  simp only at hi hi2 hTi hr ih
  by_cases hlt : i < (dACs w).length
  · by_cases h200 : (i : Int) < 200
    · have hw1 : IntKind.i64.wrap ((i : Int) + 1) = ((i + 1 : Nat) : Int) := by rw [wrap64] <;> omega
      -- what stands behind each operation
      have next : ∀ (st' : Store) (T' : List (List Int)) (q1' v1' : Nat) (ids1' : List Nat) (q2' v2' : Nat) (ids2' : List Nat), T'.length ≤ i + 1 → Pr st' T' q1' v1' ids1' q2' v2' ids2' → _ := fun st' T' q1' v1' ids1' q2' v2' ids2' hT' h' =>
        ih (i + 1, (dACs w)[i].cells, st') ⟨by simp; omega, by simp; omega, T', q1', v1', ids1', q2', v2', ids2', hT', h'⟩ (by simp; omega)
      generalize hq : (dACs w)[i] = a at *
      obtain ⟨ak, aa, ab, ac⟩ := a
      simp only [AC.cells] at next
      by_cases k0 : ak = 0
      · subst k0
        obtain ⟨st1, q1', v1', c1, a1, a2, a3, a4⟩ := rec_ok hr.r1 aa (by omega)
        have r2' : Rp st1 1 T q2 v2 ids2 := hr.r2f a2 sub2
        obtain ⟨st', q2', v2', c2, b1, b2, b3, b4⟩ := wrec_ok r2' aa (by omega)
        have hr' : Pr st' _ q1' v1' _ q2' v2' _ := hr.both a1 a2 sub2 (foot a1 a3 a4) fun _ => ⟨b1, b2, sub2, foot b1 b3 b4⟩
        have c1' := c1 0 (Nat.zero_le _) (Nat.zero_le _)
        have c2' := c2 0 (Nat.zero_le _) (Nat.zero_le _)
        have nx := next st' _ q1' v1' _ q2' v2' _ (by simp; omega) hr'
        simp only [Int.natCast_add, Int.natCast_one] at nx
        generalize T ++ [List.replicate (clampN aa) 0] = T' at *
        generalize ids2 ++ [st1.length] = ids2' at *
        have many := fun wl lim => many_ok wl lim hr'.r1
        have hlen2 := hr'.r2.len
        by_cases hT' : T' = []
        · have hw2 : st'[1]? = some (.rows 0 1 [[.nilSl]]) := by have := hr'.r2.obj; rwa [if_pos hT'] at this
          have hT0 : T'.length = 0 := by rw [hT']; rfl
          simp [w1, w2, w3, wv, hlt, h200, hq, AC.cells, W_draw0, noBoxes, c1', c2']
          rw [W_drawP]
          simp [evalRec, many, hw2, cut, hT0, pairOk, readsSame, boxOk, SOp.newBox]
          refine ⟨_, _, ⟨rfl, rfl⟩, ?_⟩
          simp [cut, hw2, oneOrAgg, AV.viewL, AV.view, Ent.same, AV.same, hw1]
          exact nx
        · have hw2 : st'[1]? = some (.rows 0 1 [[.mu q2' v2']]) := hr'.r2.obj1 hT'
          have hw3 := hr'.r2.lst hT'
          simp [w1, w2, w3, wv, hlt, h200, hq, AC.cells, W_draw0, noBoxes, c1', c2']
          rw [W_drawP]
          simp [evalRec, many, hw2, hw3, cut, hlen2, pairOk, readsSame, boxOk, SOp.newBox]
          refine ⟨_, _, ⟨rfl, rfl⟩, ?_⟩
          simp [cut, hw2, hw3, hlen2, oneOrAgg, AV.viewL, AV.view, Ent.same, AV.same, hw1]
          exact nx
      by_cases k1 : ak = 1
      · subst k1
        by_cases hb : aa < 0 ∨ 50 < aa
        · have c1 := fun wl lim => arr_no (p := 0) wl lim aa st hb
          have c2 := fun wl lim => warr_no (p := 1) wl lim aa st hb
          have nx := next st T q1 v1 ids1 q2 v2 ids2 (by omega) hr
          simp only [Int.natCast_add, Int.natCast_one] at nx
          obtain ⟨st', hst'⟩ : ∃ s, s = st := ⟨_, rfl⟩
          obtain ⟨T', hTT⟩ : ∃ T', T' = T := ⟨_, rfl⟩
          obtain ⟨q2', hqq⟩ : ∃ x, x = q2 := ⟨_, rfl⟩
          obtain ⟨v2', hvv⟩ : ∃ x, x = v2 := ⟨_, rfl⟩
          have hr' := hr
          rw [← hst', ← hTT, ← hqq, ← hvv] at hr'
          rw [← hst'] at c1 c2 nx ⊢
          have many := fun wl lim => many_ok wl lim hr'.r1
          have hlen2 := hr'.r2.len
          by_cases hT' : T' = []
          · have hw2 : st'[1]? = some (.rows 0 1 [[.nilSl]]) := by have := hr'.r2.obj; rwa [if_pos hT'] at this
            have hT0 : T'.length = 0 := by rw [hT']; rfl
            simp [w1, w2, w3, wv, hlt, h200, hq, AC.cells, c1, c2]
            rw [W_drawP]
            simp [evalRec, many, hw2, cut, hT0, pairOk, readsSame, boxOk, SOp.newBox]
            refine ⟨_, _, ⟨rfl, rfl⟩, ?_⟩
            simp [cut, hw2, oneOrAgg, AV.viewL, AV.view, Ent.same, AV.same, hw1]
            exact nx
          · have hw2 : st'[1]? = some (.rows 0 1 [[.mu q2' v2']]) := hr'.r2.obj1 hT'
            have hw3 := hr'.r2.lst hT'
            simp [w1, w2, w3, wv, hlt, h200, hq, AC.cells, c1, c2]
            rw [W_drawP]
            simp [evalRec, many, hw2, hw3, cut, hlen2, pairOk, readsSame, boxOk, SOp.newBox]
            refine ⟨_, _, ⟨rfl, rfl⟩, ?_⟩
            simp [cut, hw2, hw3, hlen2, oneOrAgg, AV.viewL, AV.view, Ent.same, AV.same, hw1]
            exact nx
        · obtain ⟨n, rfl⟩ : ∃ n : Nat, aa = n := ⟨aa.toNat, by omega⟩
          have hn50 : n ≤ 50 := by omega
          obtain ⟨st1, q1', v1', c1, a1, a2, a3, a4⟩ := arr_ok hr.r1 n (by omega) hn50
          have r2' : Rp st1 1 T q2 v2 ids2 := hr.r2f a2 sub2
          obtain ⟨st', q2', v2', c2, b1, b2, b3, b4⟩ := warr_ok r2' n hn50 (by omega)
          have hr' : Pr st' _ q1' v1' _ q2' v2' _ := hr.both a1 a2 sub2 (foot a1 a3 a4) fun _ => ⟨b1, b2, sub2, foot b1 b3 b4⟩
          have c1' := c1 0 (Nat.zero_le _) (Nat.zero_le _)
          have c2' := c2 0 (Nat.zero_le _) (Nat.zero_le _)
          have nx := next st' _ q1' v1' _ q2' v2' _ (by simp; omega) hr'
          simp only [Int.natCast_add, Int.natCast_one] at nx
          generalize T ++ [List.replicate n 0] = T' at *
          generalize ids2 ++ [st1.length] = ids2' at *
          have many := fun wl lim => many_ok wl lim hr'.r1
          have hlen2 := hr'.r2.len
          by_cases hT' : T' = []
          · have hw2 : st'[1]? = some (.rows 0 1 [[.nilSl]]) := by have := hr'.r2.obj; rwa [if_pos hT'] at this
            have hT0 : T'.length = 0 := by rw [hT']; rfl
            simp [w1, w2, w3, wv, hlt, h200, hq, AC.cells, c1', c2']
            rw [W_drawP]
            simp [evalRec, many, hw2, cut, hT0, pairOk, readsSame, boxOk, SOp.newBox]
            refine ⟨_, _, ⟨rfl, rfl⟩, ?_⟩
            simp [cut, hw2, oneOrAgg, AV.viewL, AV.view, Ent.same, AV.same, hw1]
            exact nx
          · have hw2 : st'[1]? = some (.rows 0 1 [[.mu q2' v2']]) := hr'.r2.obj1 hT'
            have hw3 := hr'.r2.lst hT'
            simp [w1, w2, w3, wv, hlt, h200, hq, AC.cells, c1', c2']
            rw [W_drawP]
            simp [evalRec, many, hw2, hw3, cut, hlen2, pairOk, readsSame, boxOk, SOp.newBox]
            refine ⟨_, _, ⟨rfl, rfl⟩, ?_⟩
            simp [cut, hw2, hw3, hlen2, oneOrAgg, AV.viewL, AV.view, Ent.same, AV.same, hw1]
            exact nx
      by_cases k2 : ak = 2
      · subst k2
        have c1 := fun wl lim => load_ok wl lim hr.r1 aa ab (by omega)
        have c2 := fun wl lim => wload_ok wl lim hr.r2 aa ab (by omega)
        have nx := next st T q1 v1 ids1 q2 v2 ids2 (by omega) hr
        simp only [Int.natCast_add, Int.natCast_one] at nx
        obtain ⟨st', hst'⟩ : ∃ s, s = st := ⟨_, rfl⟩
        obtain ⟨T', hTT⟩ : ∃ T', T' = T := ⟨_, rfl⟩
        obtain ⟨q2', hqq⟩ : ∃ x, x = q2 := ⟨_, rfl⟩
        obtain ⟨v2', hvv⟩ : ∃ x, x = v2 := ⟨_, rfl⟩
        have hr' := hr
        rw [← hst', ← hTT, ← hqq, ← hvv] at hr'
        rw [← hst'] at c1 c2 nx ⊢
        have many := fun wl lim => many_ok wl lim hr'.r1
        have hlen2 := hr'.r2.len
        by_cases hT' : T' = []
        · have hw2 : st'[1]? = some (.rows 0 1 [[.nilSl]]) := by have := hr'.r2.obj; rwa [if_pos hT'] at this
          have hT0 : T'.length = 0 := by rw [hT']; rfl
          simp [w1, w2, w3, wv, hlt, h200, hq, AC.cells, c1, c2]
          rw [W_drawP]
          simp [evalRec, many, hw2, cut, hT0, pairOk, readsSame, boxOk, SOp.newBox]
          refine ⟨_, _, ⟨rfl, rfl⟩, ?_⟩
          simp [cut, hw2, oneOrAgg, AV.viewL, AV.view, Ent.same, AV.same, hw1]
          exact nx
        · have hw2 : st'[1]? = some (.rows 0 1 [[.mu q2' v2']]) := hr'.r2.obj1 hT'
          have hw3 := hr'.r2.lst hT'
          simp [w1, w2, w3, wv, hlt, h200, hq, AC.cells, c1, c2]
          rw [W_drawP]
          simp [evalRec, many, hw2, hw3, cut, hlen2, pairOk, readsSame, boxOk, SOp.newBox]
          refine ⟨_, _, ⟨rfl, rfl⟩, ?_⟩
          simp [cut, hw2, hw3, hlen2, oneOrAgg, AV.viewL, AV.view, Ent.same, AV.same, hw1]
          exact nx
      by_cases k3 : ak = 3
      · subst k3
        obtain ⟨st1, c1, a1, a2, a3⟩ := put_ok 0 hr.r1 aa ab ac (by omega)
        have r2' : Rp st1 1 T q2 v2 ids2 := hr.r2f a2 (fun x hx => by simp [hx])
        obtain ⟨st', c2, b1, b2, b3⟩ := wput_ok r2' aa ab ac (by omega)
        have hr' : Pr st' (putT T aa ab ac) q1 v1 ids1 q2 v2 ids2 := hr.both a1 a2 (fun x hx => by simp [hx]) (fun x hx => .inl hx) fun _ => ⟨b1, b2, fun x hx => by simp [hx], fun x hx => .inl hx⟩
        have hpl : (putT T aa ab ac).length = T.length := by unfold putT; split <;> simp
        have nx := next st' _ q1 v1 ids1 q2 v2 ids2 (by omega) hr'
        simp only [Int.natCast_add, Int.natCast_one] at nx
        generalize putT T aa ab ac = T' at *
        obtain ⟨q2', hqq⟩ : ∃ x, x = q2 := ⟨_, rfl⟩
        obtain ⟨v2', hvv⟩ : ∃ x, x = v2 := ⟨_, rfl⟩
        rw [← hqq, ← hvv] at hr'
        have many := fun wl lim => many_ok wl lim hr'.r1
        have hlen2 := hr'.r2.len
        by_cases hT' : T' = []
        · have hw2 : st'[1]? = some (.rows 0 1 [[.nilSl]]) := by have := hr'.r2.obj; rwa [if_pos hT'] at this
          have hT0 : T'.length = 0 := by rw [hT']; rfl
          simp [w1, w2, w3, wv, hlt, h200, hq, AC.cells, W_draw0, noBoxes, c1, c2]
          rw [W_drawP]
          simp [evalRec, many, hw2, cut, hT0, pairOk, readsSame, boxOk, SOp.newBox]
          refine ⟨_, _, ⟨rfl, rfl⟩, ?_⟩
          simp [cut, hw2, oneOrAgg, AV.viewL, AV.view, Ent.same, AV.same, hw1]
          exact nx
        · have hw2 : st'[1]? = some (.rows 0 1 [[.mu q2' v2']]) := hr'.r2.obj1 hT'
          have hw3 := hr'.r2.lst hT'
          simp [w1, w2, w3, wv, hlt, h200, hq, AC.cells, W_draw0, noBoxes, c1, c2]
          rw [W_drawP]
          simp [evalRec, many, hw2, hw3, cut, hlen2, pairOk, readsSame, boxOk, SOp.newBox]
          refine ⟨_, _, ⟨rfl, rfl⟩, ?_⟩
          simp [cut, hw2, hw3, hlen2, oneOrAgg, AV.viewL, AV.view, Ent.same, AV.same, hw1]
          exact nx
      have c1 := fun wl lim => len_ok wl lim hr.r1 aa (by omega)
      have c2 := fun wl lim => wlen_ok wl lim hr.r2 aa (by omega)
      have nx := next st T q1 v1 ids1 q2 v2 ids2 (by omega) hr
      simp only [Int.natCast_add, Int.natCast_one] at nx
      obtain ⟨st', hst'⟩ : ∃ s, s = st := ⟨_, rfl⟩
      obtain ⟨T', hTT⟩ : ∃ T', T' = T := ⟨_, rfl⟩
      obtain ⟨q2', hqq⟩ : ∃ x, x = q2 := ⟨_, rfl⟩
      obtain ⟨v2', hvv⟩ : ∃ x, x = v2 := ⟨_, rfl⟩
      have hr' := hr
      rw [← hst', ← hTT, ← hqq, ← hvv] at hr'
      rw [← hst'] at c1 c2 nx ⊢
      by_cases hrf : 1 ≤ aa ∧ aa ≤ (T.length : Int)
      · simp only [if_pos hrf] at c1 c2
        have many := fun wl lim => many_ok wl lim hr'.r1
        have hlen2 := hr'.r2.len
        by_cases hT' : T' = []
        · have hw2 : st'[1]? = some (.rows 0 1 [[.nilSl]]) := by have := hr'.r2.obj; rwa [if_pos hT'] at this
          have hT0 : T'.length = 0 := by rw [hT']; rfl
          simp [w1, w2, w3, wv, hlt, h200, hq, AC.cells, k0, k1, k2, k3, c1, c2]
          rw [W_drawP]
          simp [evalRec, many, hw2, cut, hT0, pairOk, readsSame, boxOk, SOp.newBox]
          refine ⟨_, _, ⟨rfl, rfl⟩, ?_⟩
          simp [cut, hw2, oneOrAgg, AV.viewL, AV.view, Ent.same, AV.same, hw1]
          exact nx
        · have hw2 : st'[1]? = some (.rows 0 1 [[.mu q2' v2']]) := hr'.r2.obj1 hT'
          have hw3 := hr'.r2.lst hT'
          simp [w1, w2, w3, wv, hlt, h200, hq, AC.cells, k0, k1, k2, k3, c1, c2]
          rw [W_drawP]
          simp [evalRec, many, hw2, hw3, cut, hlen2, pairOk, readsSame, boxOk, SOp.newBox]
          refine ⟨_, _, ⟨rfl, rfl⟩, ?_⟩
          simp [cut, hw2, hw3, hlen2, oneOrAgg, AV.viewL, AV.view, Ent.same, AV.same, hw1]
          exact nx
      · simp only [if_neg hrf] at c1 c2
        have many := fun wl lim => many_ok wl lim hr'.r1
        have hlen2 := hr'.r2.len
        by_cases hT' : T' = []
        · have hw2 : st'[1]? = some (.rows 0 1 [[.nilSl]]) := by have := hr'.r2.obj; rwa [if_pos hT'] at this
          have hT0 : T'.length = 0 := by rw [hT']; rfl
          simp [w1, w2, w3, wv, hlt, h200, hq, AC.cells, k0, k1, k2, k3, c1, c2]
          rw [W_drawP]
          simp [evalRec, many, hw2, cut, hT0, pairOk, readsSame, boxOk, SOp.newBox]
          refine ⟨_, _, ⟨rfl, rfl⟩, ?_⟩
          simp [cut, hw2, oneOrAgg, AV.viewL, AV.view, Ent.same, AV.same, hw1]
          exact nx
        · have hw2 : st'[1]? = some (.rows 0 1 [[.mu q2' v2']]) := hr'.r2.obj1 hT'
          have hw3 := hr'.r2.lst hT'
          simp [w1, w2, w3, wv, hlt, h200, hq, AC.cells, k0, k1, k2, k3, c1, c2]
          rw [W_drawP]
          simp [evalRec, many, hw2, hw3, cut, hlen2, pairOk, readsSame, boxOk, SOp.newBox]
          refine ⟨_, _, ⟨rfl, rfl⟩, ?_⟩
          simp [cut, hw2, hw3, hlen2, oneOrAgg, AV.viewL, AV.view, Ent.same, AV.same, hw1]
          exact nx
    · have kn := fun wl lim => call_any (sf := s20) rfl rfl rfl known0 wl lim st
      simp [w1, w3, hlt, h200, kn]
  · have kn := fun wl lim => call_any (sf := s20) rfl rfl rfl known0 wl lim st
    simp [w1, w3, hlt, kn]
end U10
