/- Part of a proof. -/
import Derived.Test.YtffjnjnkhjmgfaaV
import Derived.Test.YtffjnjnkhjmgfaaW
import Derived.KernelRfl

namespace U12
open Ax Go Code12 IrV
set_option maxRecDepth 100000
set_option maxHeartbeats 4000000

theorem bare_named (i : ID) (h : 1 ≤ i.op ∧ i.op ≤ 20) : bareT i = namedT i := by
  have hh : i.op = 1 ∨ i.op = 2 ∨ i.op = 3 ∨ i.op = 4 ∨ i.op = 5 ∨ i.op = 6 ∨ i.op = 7 ∨ i.op = 8 ∨ i.op = 9 ∨ i.op = 10 ∨ i.op = 11 ∨ i.op = 12 ∨ i.op = 13 ∨ i.op = 14 ∨ i.op = 15 ∨ i.op = 16 ∨ i.op = 17 ∨ i.op = 18 ∨ i.op = 19 ∨ i.op = 20 := by omega
  rcases hh with h | h | h | h | h | h | h | h | h | h | h | h | h | h | h | h | h | h | h | h <;> simp [bareT, namedT, onlyT, nmT, h]

theorem bare_out (i : ID) (h : ¬ (1 ≤ i.op ∧ i.op ≤ 20)) : bareT i = false := by
  unfold bareT
  repeat' rw [if_neg (by omega)]
theorem body_out (x : XD) (f : Int) (c : CD) (i : ID) (a b d : T3) (h : ¬ (1 ≤ i.op ∧ i.op ≤ 20)) : bodyR x f c i a b d = false := by
  unfold bodyR
  repeat' rw [if_neg (by omega)]

theorem isT1 (vs : List T3) (t : T3) (a : Int) : isT vs t [a] = (!teq (ofT vs a) ⟨0, 0, 0⟩ && teq (ofT vs a) t) := by
  simp only [isT, teq_eq, List.all_cons, List.all_nil, Bool.and_true]
  by_cases h : ofT vs a = t
  · simp [h]
  · simp [h]
theorem teq_z (t u : T3) (hu : teq u ⟨0, 0, 0⟩ = false) : (!teq t ⟨0, 0, 0⟩ && teq t u) = teq t u := by
  cases e : teq t u with
  | false => simp
  | true =>
    rw [teq_eq] at e
    have := of_decide_eq_true e
    subst this
    simp [hu]
theorem isTi (vs : List T3) (a : Int) : isT vs tInt [a] = teq (ofT vs a) ⟨1, 0, 0⟩ := by
  rw [isT1]
  exact teq_z _ _ rfl
theorem isTb (vs : List T3) (a : Int) : isT vs tBool [a] = teq (ofT vs a) ⟨2, 0, 0⟩ := by
  rw [isT1]
  exact teq_z _ _ rfl
theorem isTcons (vs : List T3) (t : T3) (a b : Int) (l : List Int) : isT vs t (a :: b :: l) = (isT vs t [a] && isT vs t (b :: l)) := by
  simp only [isT, List.all_cons, List.all_nil, Bool.and_true]
  cases decide (ofT vs a = t) <;> cases decide (t ≠ T0) <;> simp

theorem two_eq (vs : List T3) (i : ID) : twoT vs i = binR i.n (ofT vs i.a) (ofT vs i.b) (ofT vs i.c) := by
  unfold twoT binR
  split
  · simp only [isTcons, isTi, Bool.and_assoc]
  split
  · simp only [isTcons, isTi, isTb, Bool.and_assoc]
  split
  · rw [isTb, isT1]
    simp only [teq_eq]
    by_cases h : ofT vs i.c = ofT vs i.b
    · simp [h]
    · have h' : ¬ ofT vs i.b = ofT vs i.c := fun e => h e.symm
      simp [h, h']
  split
  · simp only [isTcons, isTb, Bool.and_assoc]
  rfl

theorem fld_eq (rs : List RD) (vs : List T3) (a k v : Int) : fldT rs vs a k v = (!teq (ofT vs v) ⟨0, 0, 0⟩ && teq (ofT vs v) (fldR rs (ofT vs a) k)) := by
  unfold fldT fldR
  have hz : ∀ t : T3, (!teq t ⟨0, 0, 0⟩ && teq t T0) = false := by intro t; simp
  by_cases hb : (ofT vs a).b = 3
  · by_cases hd : (ofT vs a).d = 0
    · simp only [hb, hd, decide_true, Bool.true_and, and_self, if_true]
      cases getZ rs (ofT vs a).r with
      | none =>
        dsimp only
        exact (hz _).symm
      | some r =>
        dsimp only
        cases getZ (dFs r.fields) k with
        | none => exact (hz _).symm
        | some fd => exact isT1 _ _ _
    · simp [hb, hd, hz]
  · simp [hb, hz]

theorem arr_eq (vs : List T3) (a item : Int) : arrT vs a item = (decide (0 < (ofT vs a).d) && (!teq (ofT vs item) ⟨0, 0, 0⟩ && teq (ofT vs item) ⟨(ofT vs a).b, (ofT vs a).r, (ofT vs a).d - 1⟩)) := by
  unfold arrT
  rw [isT1]

theorem all_eq (ss : List SD) (f : Int) (vs : List T3) (n a : Int) : sitT ss f vs n a = (!teq (ofT vs a) ⟨0, 0, 0⟩ && allR ss f n (ofT vs a)) := by
  unfold sitT allR
  cases getZ ss n with
  | none => simp
  | some s =>
    simp only [isT1, teq_eq]
    by_cases h : ofT vs a = s.t
    · simp [h, Bool.and_comm]
    · have h' : ¬ s.t = ofT vs a := fun e => h e.symm
      simp [h, h']

theorem cal_eq (cs : List CD) (vs : List T3) (i : ID) : calT cs vs i = calR cs vs i := by
  unfold calT calR
  cases getZ cs i.c with
  | none => rfl
  | some g =>
    simp only [calG, clgR, isT1]
    have e : (fun p : Int × T3 => !teq (ofT vs p.1) ⟨0, 0, 0⟩ && teq (ofT vs p.1) p.2) = fun p => argR vs p.1 p.2 := rfl
    rw [e]
    have e2 : (!teq (ofT vs i.a) ⟨0, 0, 0⟩ && teq (ofT vs i.a) g.res) = argR vs i.a g.res := rfl
    rw [e2]
    by_cases hp : ((dI i.args).length : Int) = g.params
    · have h0 : ¬ g.params < 0 := by omega
      simp [hp, h0]
    · simp [hp]

theorem glo_eq (gs vs : List T3) (n a : Int) : gloT gs vs n a = (!teq (ofT vs a) ⟨0, 0, 0⟩ && (match getZ gs n with | some t => teq (ofT vs a) t | none => false)) := by
  unfold gloT
  cases getZ gs n with
  | none => simp
  | some t => simp only [isT1]

theorem fits_body (x : XD) (f : Int) (c : CD) (i : ID) (h : 1 ≤ i.op ∧ i.op ≤ 20) :
    fitsT x f c i = bodyR x f c i (ofT (dTs c.vars) i.a) (ofT (dTs c.vars) i.b) (ofT (dTs c.vars) i.c) := by
  have hh : i.op = 1 ∨ i.op = 2 ∨ i.op = 3 ∨ i.op = 4 ∨ i.op = 5 ∨ i.op = 6 ∨ i.op = 7 ∨ i.op = 8 ∨ i.op = 9 ∨ i.op = 10 ∨ i.op = 11 ∨ i.op = 12 ∨ i.op = 13 ∨ i.op = 14 ∨ i.op = 15 ∨ i.op = 16 ∨ i.op = 17 ∨ i.op = 18 ∨ i.op = 19 ∨ i.op = 20 := by omega
  unfold fitsT bodyR goesT
  rcases hh with h | h | h | h | h | h | h | h | h | h | h | h | h | h | h | h | h | h | h | h <;> simp [h]
  all_goals try simp only [isTcons, isTi, isTb, two_eq, fld_eq, arr_eq, all_eq, cal_eq, glo_eq, plcT]
  · intro hr
    cases e : teq (ofT (dTs c.vars) i.a) ⟨0, 0, 0⟩ with
    | false => rfl
    | true =>
      rw [teq_eq] at e
      rw [of_decide_eq_true e] at hr
      exact absurd hr (by decide)
  · rw [isT1, teq_eq, teq_eq, teq_eq, teq_eq]
    by_cases e : ofT (dTs c.vars) i.a = ofT (dTs c.vars) i.b
    · simp [e]
    · have e' : ¬ ofT (dTs c.vars) i.b = ofT (dTs c.vars) i.a := fun q => e q.symm
      simp [e, e']
  · simp only [Bool.and_assoc]
  · ac_rfl
  · ac_rfl
  · ac_rfl
  · by_cases e : 0 < (ofT (dTs c.vars) i.a).d
    · have e1 : teq (ofT (dTs c.vars) i.a) ⟨0, 0, 0⟩ = false := by
        rw [teq_eq]
        refine decide_eq_false fun q => ?_
        rw [q] at e
        exact absurd e (by decide)
      simp [e, e1, Bool.and_comm]
    · simp [e]
  · simp only [Bool.and_assoc]
  · split
    · exact isT1 _ _ _
    · rfl
  · rfl
  · rfl

theorem step_eq (x : XD) (f : Int) (i : ID) : stepT x f i = stepR x f i := by
  unfold stepT stepR
  cases getZ (dCs x.codes) f with
  | none => rfl
  | some c =>
    dsimp only
    by_cases h : 1 ≤ i.op ∧ i.op ≤ 20
    · rw [bare_named i h, fits_body x f c i h]
    · rw [bare_out i h, body_out x f c i _ _ _ h]
      simp
end U12

namespace U12
open Ax Go Code12 IrV
set_option maxRecDepth 100000
set_option maxHeartbeats 4000000

theorem known0 : (orcL S).call 0 0 11 [] [] = some (.bool true, []) := by
  have h : (orc S 200).call 0 0 11 [] [] = some (.bool true, []) := by kernel_rfl
  exact (orc_leL S 200).call _ _ _ _ _ _ h

theorem great_bounds {x : XD} (h : greatT x = false) : (∀ g ∈ dCs x.codes, (dTs g.vars).length ≤ 500) ∧ (∀ g ∈ dCs x.codes, (dNs g.ins).length ≤ 500) ∧ (dRs x.recs).length ≤ 20 ∧ (dTs x.globals).length ≤ 20 ∧ (dCs x.codes).length ≤ 20 ∧ (dSs x.sites).length ≤ 80 ∧ ∀ r ∈ dRs x.recs, (dFs r.fields).length ≤ 20 := by
  simp only [greatT, Bool.or_eq_false_iff, decide_eq_false_iff_not, List.any_eq_false, gC, gR, Bool.or_eq_true, decide_eq_true_eq, not_or] at h
  obtain ⟨⟨⟨⟨⟨h1, h2⟩, h3⟩, h4⟩, h5⟩, h6⟩ := h
  exact ⟨fun g hg => by have := (h6 g hg).1; omega, fun g hg => by have := (h6 g hg).2; omega, by omega, by omega, by omega, by omega, fun r hr => by have := h5 r hr; omega⟩

theorem law_steps (x : XD) (f : Int) (i : ID) (hx : x.ok) (hi : isI i.args = true) (hno : notOwn i.args = true) :
    (orcL S).call 0 0 4 [xAV x, .int .i64 f, idAV i] [] = some (.bool true, []) := by
  have hs := hx.sl
  have h1 := isSl_I hi
  have h2 := view_notOwn hno h1
  have hg := great_ok 0 0 [] hx
  simp only [xAV] at hg
  refine call_pure (sf := s4) rfl rfl (by simp [hx.pure, idPure hi]) rfl (by simp) ?_
  cases eg : greatT x with
  | true => simp [s4, xAV, idAV, hs, h1, hg, eg]
  | false =>
    by_cases hl : (20 : Int) < ((dI i.args).length : Int)
    · simp [s4, xAV, idAV, hs, h1, h2, hg, eg, rowsL_I hi, hl]
    · have hb : ∀ g ∈ dCs x.codes, (dTs g.vars).length < 1000000000 := fun g hgm => by have := (great_bounds eg).1 g hgm; omega
      have e1 := step_ok 0 0 f [] hx hi hno hb
      have e2 := rstep_ok 0 0 f [] hx hi hno hb
      rw [← step_eq] at e2
      simp only [xAV, idAV] at e1 e2
      simp [s4, xAV, idAV, hs, h1, h2, hg, eg, rowsL_I hi, hl, W_draw0, noBoxes, e1, e2, known0]
end U12
