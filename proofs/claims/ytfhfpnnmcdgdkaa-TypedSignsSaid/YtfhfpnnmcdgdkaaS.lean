/- Part of a proof. -/
import Derived.Test.YtfhfpnnmcdgdkaaA

namespace K9
open Ax Go Code8z V7 Par Chk N7 U7
set_option maxRecDepth 100000
set_option maxHeartbeats 8000000

def tsK (n : Nat) : List UInt8 := [[105,110,116],[98,111,111,108],[82],[91,105,110,116,93],[91,82,93]].getD n []
def tsS (n : Nat) : List UInt8 := [[43],[45],[42],[47],[37],[60],[60,61],[61,61],[33,61],[38,38],[124,124]].getD n []
/-- The text of two operands' types, a sign, a type. -/
def tsT (i j k n : Nat) : List UInt8 := [114,101,99,111,114,100,32,82,32,123,32,125,32,102,117,110,99,32,102,40,97,58,32] ++ tsK j ++ [44,32,98,58,32] ++ tsK k ++ [41,32,123,32,108,101,116,32,120,58,32] ++ tsK n ++ [32,61,32,97,32] ++ tsS i ++ [32,98,59,32,125,32,102,117,110,99,32,109,97,105,110,40,41,32,123,32,125]
/-- Does a program fit? -/
def ckP (p : Pg) : Bool := match faultH (gdOf p) with
  | some _ => false
  | none => match ckF (hdOf p) (hdOf p).sigs p.funcs with
    | .error _ => false
    | .ok _ => true
def tsTo (i : Nat) : Nat := if i < 5 then 0 else 1
def tsF (i j k : Nat) : Bool := if i < 7 then decide (j = 0) && decide (k = 0) else if 8 < i then decide (j = 1) && decide (k = 1) else decide (j = k)
def tsOk (i j k n : Nat) : Bool := ckP (progS (tsT i j k n)).1 == (tsF i j k && decide (n = tsTo i))
def tsAll (i : Nat) : Bool := (List.range 5).all fun j => (List.range 5).all fun k => (List.range 5).all fun n => tsOk i j k n

/-- typed.Check of any text's program: its fault. -/
theorem checkS_ok (s : List UInt8) : ∃ (a b c d : AV) (m z : Int), (isSl a = true ∧ a.view = a) ∧ (isSl b = true ∧ b.view = b) ∧ (isSl c = true ∧ c.view = c) ∧ (isSl d = true ∧ d.view = d) ∧
    ∀ wl lim st, (orcL S).call wl lim 7 [.agg (progS s).1.row] st = some (.tup [.agg [a, b, c, .int .i64 m, d], .agg [.int .i64 (if ckP (progS s).1 then 0 else 3), .int .i64 z]], st) := by
  obtain ⟨hin, _⟩ := progS_in s
  have hsm := progS_small s
  have ec := fun wl lim st => check_ok wl lim (progS s).1 st (gd_ok hin) (gd_sm hin) (fun f hf => by
    have := hsm f hf
    have := (hin.f.2 f hf).len
    omega)
  generalize (progS s).1 = p at *
  unfold typedV at ec
  unfold ckP
  cases hF : faultH (gdOf p) with
  | some z =>
    rw [hF] at ec
    exact ⟨.nilSl, .nilSl, .nilSl, .nilSl, 0, z, ⟨rfl, rfl⟩, ⟨rfl, rfl⟩, ⟨rfl, rfl⟩, ⟨rfl, rfl⟩, ec⟩
  | none =>
    rw [hF] at ec
    simp only at ec
    cases hR : ckF (hdOf p) (hdOf p).sigs p.funcs with
    | error z =>
      rw [hR] at ec
      exact ⟨.nilSl, .nilSl, .nilSl, .nilSl, 0, z, ⟨rfl, rfl⟩, ⟨rfl, rfl⟩, ⟨rfl, rfl⟩, ⟨rfl, rfl⟩, ec⟩
    | ok bs =>
      rw [hR] at ec
      exact ⟨_, _, _, _, _, 0, ⟨isSl_lstV, view_lstV⟩, ⟨isSl_fdsV, view_fdsV⟩, ⟨isSl_lstV, view_lstV⟩, ⟨isSl_lstV, view_lstV⟩, ec⟩
def tsSV : AV := .lst 1 [[.str [43]],[.str [45]],[.str [42]],[.str [47]],[.str [37]],[.str [60]],[.str [60,61]],[.str [61,61]],[.str [33,61]],[.str [38,38]],[.str [124,124]]]
def tsKV : AV := .lst 1 [[.str [105,110,116]],[.str [98,111,111,108]],[.str [82]],[.str [91,105,110,116,93]],[.str [91,82,93]]]
theorem tsS_get {i : Nat} (h : i < 11) (h2 : i < (rowsL tsSV).length) : (rowsL tsSV)[i] = [.str (tsS i)] := by
  match i, h with
  | 0, _ | 1, _ | 2, _ | 3, _ | 4, _ | 5, _ | 6, _ | 7, _ | 8, _ | 9, _ | 10, _ => rfl
theorem tsK_get {i : Nat} (h : i < 5) (h2 : i < (rowsL tsKV).length) : (rowsL tsKV)[i] = [.str (tsK i)] := by
  match i, h with
  | 0, _ | 1, _ | 2, _ | 3, _ | 4, _ => rfl
theorem tsS_len {i : Nat} (h : i < 11) : (tsS i).length ≤ 2 := by
  match i, h with
  | 0, _ | 1, _ | 2, _ | 3, _ | 4, _ | 5, _ | 6, _ | 7, _ | 8, _ | 9, _ | 10, _ => decide
theorem tsK_len {i : Nat} (h : i < 5) : (tsK i).length ≤ 5 := by
  match i, h with
  | 0, _ | 1, _ | 2, _ | 3, _ | 4, _ => decide
theorem tsK_eq {i j : Nat} (h : i < 5) (h2 : j < 5) : (tsK i = tsK j) = (i = j) := by
  match i, h, j, h2 with
  | 0, _, 0, _ | 0, _, 1, _ | 0, _, 2, _ | 0, _, 3, _ | 0, _, 4, _ => decide
  | 1, _, 0, _ | 1, _, 1, _ | 1, _, 2, _ | 1, _, 3, _ | 1, _, 4, _ => decide
  | 2, _, 0, _ | 2, _, 1, _ | 2, _, 2, _ | 2, _, 3, _ | 2, _, 4, _ => decide
  | 3, _, 0, _ | 3, _, 1, _ | 3, _, 2, _ | 3, _, 3, _ | 3, _, 4, _ => decide
  | 4, _, 0, _ | 4, _, 1, _ | 4, _, 2, _ | 4, _, 3, _ | 4, _, 4, _ => decide
theorem signs_loop (i j k : Nat) (hi : i < 11) (hj : j < 5) (hk : k < 5) (hall : ∀ n, n < 5 → tsOk i j k n = true) (t : Nat) (ft : Bool) (ht : t = tsTo i) (hf : ft = tsF i j k) :
    W S 0 0 [SRes.tmp 6 false] (PureQ [SRes.tmp 6 false] (AV.bool true))
    [Todo.code s4_l0.loop, Todo.blk 1, Todo.code ((SCode.region [{ dst := some 140, op := SOp.call 8, args := [], guard := none }, { dst := some 6, op := SOp.move, args := [Src.tmp 140 false], guard := none }] none [140]).seq SCode.ret)]
    Ex.normal ⟨[(0, .val (.int .i64 i)), (1, .val (.int .i64 j)), (2, .val (.int .i64 k)), (7, .val tsSV), (8, .val tsKV), (9, .val (.str (tsK t))), (10, .val (.bool ft)), (11, .val (.int .i64 0))], [[], [], [], []], []⟩ := by
  have ek := fun wl lim st => call_any (S := S) (f := 8) (sf := s8) rfl rfl (args := []) rfl known0 wl lim st
  have gS := fun h => tsS_get hi h
  have gJ := fun h => tsK_get hj h
  have gK := fun h => tsK_get hk h
  have lS := tsS_len hi
  have lJ := tsK_len hj
  have lK := tsK_len hk
  have z1 : isSz 1 tsSV = true := rfl
  have z2 : isSz 1 tsKV = true := rfl
  have n1 : (rowsL tsSV).length = 11 := rfl
  have n2 : (rowsL tsKV).length = 5 := rfl
  have v1 : tsSV.view = tsSV := rfl
  have v2 : tsKV.view = tsKV := rfl
  have w1 : isSl tsSV = true := rfl
  have w2 : isSl tsKV = true := rfl
  refine W_loopI s4_l0.eq_1 (fun x : Nat × List AV × List AV × List AV × List AV => ⟨[(0, .val (.int .i64 i)), (1, .val (.int .i64 j)), (2, .val (.int .i64 k)), (7, .val tsSV), (8, .val tsKV), (9, .val (.str (tsK t))), (10, .val (.bool ft)), (11, .val (.int .i64 x.1))], [x.2.1, x.2.2.1, x.2.2.2.1, x.2.2.2.2], []⟩)
    (fun x => x.1 ≤ 5) (fun x => 5 - x.1) (0, [], [], [], []) rfl (by simp) ?_
  rintro ⟨n, b0, b1, b2, b3⟩ hn ih
  simp only at hn ih
  by_cases hlt : n < 5
  · have gN := fun h => tsK_get hlt h
    have lN := tsK_len hlt
    have hw : IntKind.i64.wrap ((n : Int) + 1) = ((n + 1 : Nat) : Int) := by rw [wrap64] <;> omega
    have ih' := fun b0 b1 b2 b3 => ih (n + 1, b0, b1, b2, b3) (by simp only; omega) (by simp only; omega)
    simp only at ih'
    have hte : (tsK n = tsK t) = (n = t) := tsK_eq hlt (by rw [ht]; unfold tsTo; split <;> decide)
    have ho := hall n hlt
    unfold tsOk at ho
    obtain ⟨ca, cb, cc, cd, m, z, hca, hcb, hcc, hcd, ec⟩ := checkS_ok (tsT i j k n)
    have ep := fun wl lim st => prog_ok wl lim (tsT i j k n) st
    have hpr : ∀ p : Pg, p.row = [lstV 3 (p.recs.map Rc.row), lstV 4 (p.globals.map PD.cells), lstV 7 (p.funcs.map Fc.row)] := fun _ => rfl
    generalize progS (tsT i j k n) = P at *
    obtain ⟨p, fe, fa⟩ := P
    simp only at ho ec ep
    rw [hpr] at ec ep
    have f1 : isSl (lstV 7 (p.funcs.map Fc.row)) = true := isSl_lstV
    have f2 : (lstV 7 (p.funcs.map Fc.row)).view = lstV 7 (p.funcs.map Fc.row) := view_lstV
    have r1 : isSl (lstV 3 (p.recs.map Rc.row)) = true := isSl_lstV
    have r2 : (lstV 3 (p.recs.map Rc.row)).view = lstV 3 (p.recs.map Rc.row) := view_lstV
    have g1 : isSl (lstV 4 (p.globals.map PD.cells)) = true := isSl_lstV
    have g2 : (lstV 4 (p.globals.map PD.cells)).view = lstV 4 (p.globals.map PD.cells) := view_lstV
    generalize lstV 3 (p.recs.map Rc.row) = PR at *
    generalize lstV 7 (p.funcs.map Fc.row) = PF at *
    generalize lstV 4 (p.globals.map PD.cells) = PG at *
    unfold tsT at ep
    have c0 : (n : Int) < 5 := by omega
    have c1 : (j : Int) < 5 := by omega
    have c2 : (k : Int) < 5 := by omega
    have c3 : (i : Int) < 11 := by omega
    generalize tsSV = SG at *
    generalize tsKV = KD at *
    generalize tsK j = tj at *
    generalize tsK k = tk at *
    generalize tsK n = tn at *
    generalize tsS i = ti at *
    have cat : ∀ a b : List UInt8, a.length ≤ 1000 → b.length ≤ 1000 → binV .add (.str a) (.str b) = some (.str (a ++ b)) := fun a b h1 h2 => by rw [sb_add, if_pos (by omega)]
    have e1 := cat [114,101,99,111,114,100,32,82,32,123,32,125,32,102,117,110,99,32,102,40,97,58,32] tj (by simp) (by omega)
    have l1 : ([114,101,99,111,114,100,32,82,32,123,32,125,32,102,117,110,99,32,102,40,97,58,32] ++ tj).length ≤ 30 := by rw [List.length_append]; simp only [List.length_cons, List.length_nil]; omega
    generalize [114,101,99,111,114,100,32,82,32,123,32,125,32,102,117,110,99,32,102,40,97,58,32] ++ tj = x1 at *
    have e2 := cat x1 [44,32,98,58,32] (by omega) (by simp)
    have l2 : (x1 ++ [44,32,98,58,32]).length ≤ 40 := by rw [List.length_append]; simp only [List.length_cons, List.length_nil]; omega
    generalize x1 ++ [44,32,98,58,32] = x2 at *
    have e3 := cat x2 tk (by omega) (by omega)
    have l3 : (x2 ++ tk).length ≤ 50 := by rw [List.length_append]; omega
    generalize x2 ++ tk = x3 at *
    have e4 := cat x3 [41,32,123,32,108,101,116,32,120,58,32] (by omega) (by simp)
    have l4 : (x3 ++ [41,32,123,32,108,101,116,32,120,58,32]).length ≤ 70 := by rw [List.length_append]; simp only [List.length_cons, List.length_nil]; omega
    generalize x3 ++ [41,32,123,32,108,101,116,32,120,58,32] = x4 at *
    have e5 := cat x4 tn (by omega) (by omega)
    have l5 : (x4 ++ tn).length ≤ 80 := by rw [List.length_append]; omega
    generalize x4 ++ tn = x5 at *
    have e6 := cat x5 [32,61,32,97,32] (by omega) (by simp)
    have l6 : (x5 ++ [32,61,32,97,32]).length ≤ 90 := by rw [List.length_append]; simp only [List.length_cons, List.length_nil]; omega
    generalize x5 ++ [32,61,32,97,32] = x6 at *
    have e7 := cat x6 ti (by omega) (by omega)
    have l7 : (x6 ++ ti).length ≤ 100 := by rw [List.length_append]; omega
    generalize x6 ++ ti = x7 at *
    have e8 := cat x7 [32,98,59,32,125,32,102,117,110,99,32,109,97,105,110,40,41,32,123,32,125] (by omega) (by simp)
    generalize x7 ++ [32,98,59,32,125,32,102,117,110,99,32,109,97,105,110,40,41,32,123,32,125] = x8 at *
    have hck : ckP p = (ft && decide (n = t)) := by rw [hf, ht]; simpa using ho
    cases ft with
    | false =>
      simp only [Bool.false_and] at hck
      simp [-sb_add, hck, e1, e2, e3, e4, e5, e6, e7, e8, ep, ec, hca, hcb, hcc, hcd, f1, f2, r1, r2, g1, g2, paste, AV.view, hte, c0, c1, c2, c3, hlt, hi, hj, hk, hw, z1, z2, n1, n2, v1, v2, w1, w2, gS, gJ, gK, gN, W_draw0, W_drawB, boxOk, noBoxes]
      exact ih' _ _ _ _
    | true =>
      simp only [Bool.true_and] at hck
      by_cases q : n = t
      · rw [decide_eq_true q] at hck
        have q : (n = t) = True := eq_true q
        simp [-sb_add, hck, q, e1, e2, e3, e4, e5, e6, e7, e8, ep, ec, hca, hcb, hcc, hcd, f1, f2, r1, r2, g1, g2, paste, AV.view, hte, c0, c1, c2, c3, hlt, hi, hj, hk, hw, z1, z2, n1, n2, v1, v2, w1, w2, gS, gJ, gK, gN, W_draw0, W_drawB, boxOk, noBoxes]
        exact ih' _ _ _ _
      · rw [decide_eq_false q] at hck
        simp [-sb_add, hck, q, e1, e2, e3, e4, e5, e6, e7, e8, ep, ec, hca, hcb, hcc, hcd, f1, f2, r1, r2, g1, g2, paste, AV.view, hte, c0, c1, c2, c3, hlt, hi, hj, hk, hw, z1, z2, n1, n2, v1, v2, w1, w2, gS, gJ, gK, gN, W_draw0, W_drawB, boxOk, noBoxes]
        exact ih' _ _ _ _
  · have c0 : ¬ (n : Int) < 5 := by omega
    simp [n2, w2, v2, c0, ek]
theorem law_signs (hall : ∀ n, n < 11 → tsAll n = true) (i j k : Int) : (orcL S).call 0 0 4 [.int .i64 i, .int .i64 j, .int .i64 k] [] = some (.bool true, []) := by
  refine call_pure (sf := s4) rfl rfl (by simp [AV.allPure, AV.isPure]) rfl (by simp) ?_
  by_cases hi : i < 0
  · simp [s4, hi]
  by_cases hi2 : 11 ≤ i
  · simp [s4, hi, hi2]
  by_cases hj : j < 0
  · simp [s4, hi, hi2, hj]
  by_cases hj2 : 5 ≤ j
  · simp [s4, hi, hi2, hj, hj2]
  by_cases hk : k < 0
  · simp [s4, hi, hi2, hj, hj2, hk]
  by_cases hk2 : 5 ≤ k
  · simp [s4, hi, hi2, hj, hj2, hk, hk2]
  obtain ⟨i, rfl⟩ : ∃ n : Nat, i = n := ⟨i.toNat, by omega⟩
  obtain ⟨j, rfl⟩ : ∃ n : Nat, j = n := ⟨j.toNat, by omega⟩
  obtain ⟨k, rfl⟩ : ∃ n : Nat, k = n := ⟨k.toNat, by omega⟩
  have ho : ∀ n, n < 5 → tsOk i j k n = true := fun n hn => by
    have h := hall i (by omega)
    unfold tsAll at h
    simp only [List.all_eq_true, List.mem_range] at h
    exact h j (by omega) k (by omega) n hn
  have key := signs_loop i j k (by omega) (by omega) (by omega) ho
  have b0 : ∀ a : Nat, ((a : Int) = 0) = (a = 0) := fun a => by simp
  have b1 : ∀ a : Nat, ((a : Int) = 1) = (a = 1) := fun a => by apply propext; omega
  by_cases q1 : (i : Int) < 5
  · have k1 : tsTo i = 0 := if_pos (by omega)
    by_cases q2 : j = 0
    · by_cases q3 : k = 0
      · subst q2 q3
        simp [s4, hi, hi2, q1]
        exact key 0 true k1.symm (by unfold tsF; rw [if_pos (by omega)]; rfl)
      · subst q2
        simp [s4, hi, hi2, hk, hk2, q1, q3]
        exact key 0 false k1.symm (by unfold tsF; rw [if_pos (by omega)]; simp [q3])
    · simp [s4, hi, hi2, hj, hj2, hk, hk2, q1, q2]
      exact key 0 false k1.symm (by unfold tsF; rw [if_pos (by omega)]; simp [q2])
  have k1 : tsTo i = 1 := if_neg (by omega)
  by_cases q4 : (i : Int) < 7
  · by_cases q2 : j = 0
    · by_cases q3 : k = 0
      · subst q2 q3
        simp [s4, hi, hi2, q1, q4]
        exact key 1 true k1.symm (by unfold tsF; rw [if_pos (by omega)]; rfl)
      · subst q2
        simp [s4, hi, hi2, hk, hk2, q1, q3, q4]
        exact key 1 false k1.symm (by unfold tsF; rw [if_pos (by omega)]; simp [q3])
    · simp [s4, hi, hi2, hj, hj2, hk, hk2, q1, q2, q4]
      exact key 1 false k1.symm (by unfold tsF; rw [if_pos (by omega)]; simp [q2])
  by_cases q5 : (8 : Int) < i
  · by_cases q2 : j = 1
    · by_cases q3 : k = 1
      · subst q2 q3
        simp [s4, hi, hi2, q1, q4, q5]
        exact key 1 true k1.symm (by unfold tsF; rw [if_neg (by omega), if_pos (by omega)]; rfl)
      · subst q2
        simp [s4, hi, hi2, hk, hk2, q1, q3, q4, q5, b1]
        exact key 1 false k1.symm (by unfold tsF; rw [if_neg (by omega), if_pos (by omega)]; simp [q3])
    · simp [s4, hi, hi2, hj, hj2, hk, hk2, q1, q2, q4, q5, b1]
      exact key 1 false k1.symm (by unfold tsF; rw [if_neg (by omega), if_pos (by omega)]; simp [q2])
  · simp [s4, hi, hi2, hj, hj2, hk, hk2, q1, q4, q5]
    exact key 1 (decide (j = k)) k1.symm (by unfold tsF; rw [if_neg (by omega), if_neg (by omega)])
end K9
