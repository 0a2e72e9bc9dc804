/- Part of a proof. -/
import Derived.Test.YtlcehclecbakiaaGreatRc
import Derived.Test.YtlcehclecbakiaaGreatWa
import Derived.Test.YtlcehclecbakiaaGreatCode2
import Derived.KernelRfl
import Derived.Test.YtlcehclecbakiaaGreatA6

namespace U12
open Ax Go Code19 IrV
set_option maxRecDepth 100000
set_option maxHeartbeats 4000000

/-! ### What is right of a right program -/
theorem inV_of {c : CD} {n : Int} (h : ofT (dTs c.vars) n ≠ T0) : inV c n := by
  unfold ofT at h
  split at h
  · rename_i h0
    refine ⟨h0, ?_⟩
    apply Classical.byContradiction
    intro hn
    rw [List.getD_eq_getElem?_getD, List.getElem?_eq_none (by omega)] at h
    exact h rfl
  · exact absurd rfl h
theorem inV_b {c : CD} {n : Int} (h : (ofT (dTs c.vars) n).b = 3) : inV c n := inV_of fun e => by rw [e] at h; cases h
theorem inV_d {c : CD} {n : Int} (h : 0 < (ofT (dTs c.vars) n).d) : inV c n := inV_of fun e => by rw [e] at h; cases h
theorem isT_in {c : CD} {t : T3} {n : Int} (h : isT (dTs c.vars) t [n] = true) : inV c n := by
  simp only [isT, List.all_cons, List.all_nil, Bool.and_true, Bool.and_eq_true, decide_eq_true_eq] at h
  exact inV_of (by rw [h.1]; exact h.2)
theorem isT_ne {vs : List T3} {t : T3} {l : List Int} (h : isT vs t l = true) : t ≠ T0 := by
  simp only [isT, Bool.and_eq_true, decide_eq_true_eq] at h
  exact h.2
theorem fldT_in {rs : List RD} {c : CD} {a k v : Int} (h : fldT rs (dTs c.vars) a k v = true) : inV c a ∧ inV c v := by
  simp only [fldT, Bool.and_eq_true, decide_eq_true_eq] at h
  obtain ⟨⟨h1, h2⟩, h3⟩ := h
  refine ⟨inV_b h1, ?_⟩
  split at h3
  · split at h3
    · exact isT_in h3
    · cases h3
  · cases h3
theorem arrT_in {c : CD} {a v : Int} (h : arrT (dTs c.vars) a v = true) : inV c a ∧ inV c v := by
  simp only [arrT, Bool.and_eq_true, decide_eq_true_eq] at h
  exact ⟨inV_d h.1, isT_in h.2⟩
theorem getZ_lt {α : Type} {l : List α} {n : Int} {y : α} (h : getZ l n = some y) : 0 ≤ n ∧ n < l.length := by
  unfold getZ at h
  split at h
  · obtain ⟨hk, _⟩ := List.getElem?_eq_some_iff.1 h
    omega
  · cases h
theorem gloT_in {gs : List T3} {c : CD} {n a : Int} (h : gloT gs (dTs c.vars) n a = true) : (0 ≤ n ∧ n < gs.length) ∧ inV c a := by
  unfold gloT at h
  split at h
  · rename_i t ht
    exact ⟨getZ_lt ht, isT_in h⟩
  · cases h
theorem calT_in {x : XD} {c : CD} {i : ID} (hm : Sm x) (h : calT (dCs x.codes) (dTs c.vars) i = true) :
    0 ≤ i.c ∧ i.c < (dCs x.codes).length ∧ (∀ q ∈ dI i.args, inV c q) ∧ (i.a = -1 ∨ inV c i.a) ∧ (dI i.args).length ≤ 300 := by
  unfold calT at h
  split at h
  · cases h
  · rename_i g hg
    obtain ⟨h0, h1⟩ := getZ_lt hg
    simp only [calG, Bool.and_eq_true, decide_eq_true_eq, Bool.or_eq_true] at h
    obtain ⟨⟨⟨h2, h3⟩, h4⟩, h5⟩ := h
    have hgm : g ∈ dCs x.codes := by
      unfold getZ at hg
      rw [if_pos h0] at hg
      exact List.mem_of_getElem? hg
    have hgv := hm.vars g hgm
    unfold nvs at hgv
    refine ⟨h0, h1, fun q hq => ?_, ?_, by omega⟩
    · obtain ⟨j, hj, rfl⟩ := List.mem_iff_getElem.1 hq
      have hjv : j < (dTs g.vars).length := by omega
      have := List.all_eq_true.1 h4 ((dI i.args)[j], (dTs g.vars)[j]) (by
        rw [List.mem_iff_getElem]
        exact ⟨j, by simp; omega, by simp⟩)
      exact isT_in this
    · rcases h5 with h5 | h5
      · exact .inl h5
      · exact .inr (isT_in h5.2)
theorem fits_in {x : XD} {f : Int} {c : CD} {i : ID} (hm : Sm x) (ha : isI i.args = true) (hno : notOwn i.args = true) (h : fitsT x f c i = true) : IOk x c i := by
  unfold fitsT at h
  refine ⟨ha, hno, fun p => ?_, fun p => ?_, fun p => ?_, fun p => ?_, fun p => ?_, fun p => ?_⟩
  · rcases p with p | p | p | p | p | p | p | p | p
    · simp [p] at h
      exact inV_of (isT_ne h)
    · simp [p] at h; exact (fldT_in h).2
    · simp [p] at h; exact (fldT_in h).1
    · simp [p] at h; exact (arrT_in h.1).2
    · simp [p] at h; exact (arrT_in h.1).1
    · simp [p] at h; exact inV_b h.1.1
    · simp [p] at h; exact inV_d h.1.1
    · simp [p, goesT] at h; exact (gloT_in h).2
    · simp [p, goesT] at h; exact (gloT_in h).2
  · rcases p with p | p | p | p
    · simp [p] at h; exact isT_in h
    · simp [p] at h; exact (fldT_in h).1
    · simp [p] at h; exact (fldT_in h).2
    · simp [p] at h; exact (arrT_in h.1).1
  · simp [p] at h; exact (arrT_in h.1).2
  · simp [p, goesT] at h; exact calT_in hm h
  · simp [p, goesT] at h
    split at h
    · exact .inr (isT_in h)
    · exact .inl (by simpa using h)
  · rcases p with p | p
    · simp [p, goesT] at h; exact (gloT_in h).1
    · simp [p, goesT] at h; exact (gloT_in h).1

theorem codesB_at (x : XD) : ∀ (l : List CD) (f n : Int) (k : Nat) (h : k < l.length), codesB x l f n = true → codeT x (f + k) l[k] = true
  | [], _, _, _, h, _ => by simp at h
  | c :: l, f, n, 0, _, hb => by
    simp only [codesB, Bool.and_eq_true] at hb
    simpa using hb.1.2
  | c :: l, f, n, k + 1, h, hb => by
    simp only [codesB, Bool.and_eq_true] at hb
    have := codesB_at x l (f + 1) _ k (by simpa using h) hb.2
    rw [show f + ((k + 1 : Nat) : Int) = f + 1 + (k : Int) by omega]
    simpa using this

theorem right_X {x : XD} (hx : x.ok) (hm : Sm x) (h : rightT x = true) : XOk x := by
  intro k hk i hi
  have hN := (isCs_get hx.codes _ (List.getElem_mem hk)).2
  obtain ⟨hno, ha⟩ := isNs_get hN i hi
  simp only [rightT, Bool.and_eq_true] at h
  have hc := codesB_at x _ 0 0 k hk h.2
  simp only [codeT, Bool.and_eq_true] at hc
  have hs := List.all_eq_true.1 hc.1.2 i hi
  simp only [stepT] at hs
  split at hs
  · cases hs
  · rename_i c hg
    have hcc : (dCs x.codes)[k] = c := by
      unfold getZ at hg
      rw [if_pos (by omega)] at hg
      simp only [show ((0 : Int) + (k : Int)).toNat = k by omega, List.getElem?_eq_getElem hk, Option.some.injEq] at hg
      exact hg
    rw [hcc]
    simp only [Bool.and_eq_true] at hs
    exact fits_in hm ha hno hs.2
end U12

namespace U12
open Ax Go Code19 IrV
set_option maxRecDepth 100000
set_option maxHeartbeats 8000000

def gC (c : CD) : Bool := decide (300 < (dTs c.vars).length) || decide (300 < (dNs c.ins).length)
def greatT (x : XD) : Bool := decide (20 < (dRs x.recs).length) || decide (20 < (dTs x.globals).length) || decide (20 < (dCs x.codes).length) || decide (80 < (dSs x.sites).length) || (dCs x.codes).any gC

theorem great_ok (wl lim : Nat) {x : XD} (st : Store) (hx : x.ok) :
    (orcL S).call wl lim 8 [xAV x] st = some (.bool (greatT x), st) := by
  have hs := hx.sl
  have hC := hx.codes
  have hl : rowsL x.recs = (dRs x.recs).map RD.cells ∧ rowsL x.globals = (dTs x.globals).map T3.cells ∧ rowsL x.codes = (dCs x.codes).map CD.cells ∧ rowsL x.sites = (dSs x.sites).map SD.cells :=
    ⟨rowsL_R hx.recs, rowsL_T hx.globals, rowsL_C hx.codes, rowsL_S hx.sites⟩
  refine call_pure (sf := s8) rfl rfl (by simp [hx.pure]) rfl (by simp) ?_
  unfold greatT
  by_cases a1 : 20 < (dRs x.recs).length
  · have b1 : (20 : Int) < ((dRs x.recs).length : Int) := by omega
    simp [s8, xAV, hs, hl, a1, b1]
  by_cases a2 : 20 < (dTs x.globals).length
  · have b1 : ¬ (20 : Int) < ((dRs x.recs).length : Int) := by omega
    have b2 : (20 : Int) < ((dTs x.globals).length : Int) := by omega
    simp [s8, xAV, hs, hl, a1, b1, a2, b2]
  by_cases a3 : 20 < (dCs x.codes).length
  · have b1 : ¬ (20 : Int) < ((dRs x.recs).length : Int) := by omega
    have b2 : ¬ (20 : Int) < ((dTs x.globals).length : Int) := by omega
    have b3 : (20 : Int) < ((dCs x.codes).length : Int) := by omega
    simp [s8, xAV, hs, hl, a1, b1, a2, b2, a3, b3]
  by_cases a4 : 80 < (dSs x.sites).length
  · have b1 : ¬ (20 : Int) < ((dRs x.recs).length : Int) := by omega
    have b2 : ¬ (20 : Int) < ((dTs x.globals).length : Int) := by omega
    have b3 : ¬ (20 : Int) < ((dCs x.codes).length : Int) := by omega
    have b4 : (80 : Int) < ((dSs x.sites).length : Int) := by omega
    simp [s8, xAV, hs, hl, a1, b1, a2, b2, a3, b3, a4, b4]
  have b1 : ¬ (20 : Int) < ((dRs x.recs).length : Int) := by omega
  have b2 : ¬ (20 : Int) < ((dTs x.globals).length : Int) := by omega
  have b3 : ¬ (20 : Int) < ((dCs x.codes).length : Int) := by omega
  have b4 : ¬ (80 : Int) < ((dSs x.sites).length : Int) := by omega
  simp [s8, xAV, hs, hl, a1, b1, a2, b2, a3, b3, a4, b4]
  refine W_loopI s8_l0.eq_1 (fun k : Nat => ⟨[(1, .fp 0 0), (3, .val (.int .i64 k))], [[x.recs, x.globals, x.codes, x.sites, .int .i64 x.main]], []⟩)
    (fun k => k ≤ (dCs x.codes).length ∧ nope gC (dCs x.codes) k) (fun k => (dCs x.codes).length - k) 0 (by simp) ⟨by omega, nope_zero⟩ ?_
  intro k ⟨hk, hp⟩ ih
  by_cases hlt : k < (dCs x.codes).length
  · have hw : IntKind.i64.wrap ((k : Int) + 1) = ((k + 1 : Nat) : Int) := by rw [wrap64] <;> omega
    have hF := isCs_get hC _ (List.getElem_mem hlt)
    have hFs := isSl_T hF.1
    have hFv := isTs_vw hF.1
    have hFl := rowsL_T hF.1
    have hGs := isSl_N hF.2
    have hGv := isNs_vw hF.2
    have hGl := rowsL_N hF.2
    by_cases g : 300 < (dTs (dCs x.codes)[k].vars).length
    · have g' : (300 : Int) < ((dTs (dCs x.codes)[k].vars).length : Int) := by omega
      have hf := nope_any (p := gC) hlt (by simp [gC, g])
      simp [hs, hl, hlt, hC, CD.cells, hF, hFv, hFl, g', hf]
    · have g' : ¬ (300 : Int) < ((dTs (dCs x.codes)[k].vars).length : Int) := by omega
      by_cases r : 300 < (dNs (dCs x.codes)[k].ins).length
      · have r' : (300 : Int) < ((dNs (dCs x.codes)[k].ins).length : Int) := by omega
        have hf := nope_any (p := gC) hlt (by simp [gC, r])
        simp [hs, hl, hlt, hC, CD.cells, hF, hFv, hFl, hGv, hGl, g', r', hf]
      · have r' : ¬ (300 : Int) < ((dNs (dCs x.codes)[k].ins).length : Int) := by omega
        simp [hs, hl, hlt, hC, CD.cells, hF, hFv, hFl, hGv, hGl, g', r', hw]
        exact ih (k + 1) ⟨by omega, nope_succ hp hlt (by simp [gC, g, r])⟩ (by omega)
  have hkl : k = (dCs x.codes).length := by omega
  have hf := nope_all (hkl ▸ hp)
  simp [hs, hl, hlt, hf]

theorem great_Sm {x : XD} (h : greatT x = false) : Sm x := by
  simp only [greatT, Bool.or_eq_false_iff, decide_eq_false_iff_not, List.any_eq_false, gC, Bool.or_eq_true, decide_eq_true_eq, not_or] at h
  obtain ⟨⟨⟨⟨h1, h2⟩, h3⟩, h4⟩, h5⟩ := h
  exact ⟨by omega, fun g hg => by have := (h5 g hg).1; unfold nvs; omega, fun g hg => by have := (h5 g hg).2; omega, by omega⟩
section
variable {x : XD} (hx : x.ok) (hm : Sm x)
include hx hm

theorem irR (wl lim : Nat) (st : Store) : (orcL S).call wl lim 25 [xAV x] st = some (.bool (rightT x), st) :=
  right_ok wl lim st hx (fun g hg => by have := hm.vars g hg; unfold nvs at this; omega) (fun g hg => by have := hm.ins g hg; omega)
theorem rrR (wl lim : Nat) (st : Store) : (orcL S).call wl lim 18 [xAV x] st = some (.bool (rightT x), st) := by
  rw [right_eq]
  exact rright_ok wl lim st hx (fun g hg => by have := hm.vars g hg; unfold nvs at this; omega) (fun g hg => by have := hm.ins g hg; omega)

def conL (x : XD) : List (List AV) := if rightT x then conN x (dCs x.codes).length else []
def countT (x : XD) : Int := if rightT x then sumV (dCs x.codes) + (dCs x.codes).length + (dTs x.globals).length else 0
def varT (x : XD) (f v : Int) : Int := if rightT x ∧ 0 ≤ f ∧ 0 ≤ v then (match (dCs x.codes)[f.toNat]? with
  | some c => if v < (dTs c.vars).length then atN x f.toNat + v else -1
  | none => -1) else -1
def resT (x : XD) (f : Int) : Int := if rightT x ∧ 0 ≤ f ∧ f < (dCs x.codes).length then sumV (dCs x.codes) + f else -1
def glbT (x : XD) (g : Int) : Int := if rightT x ∧ 0 ≤ g ∧ g < (dTs x.globals).length then sumV (dCs x.codes) + (dCs x.codes).length + g else -1

theorem make_ok (wl lim : Nat) (st : Store) : (orcL S).call wl lim 10 [xAV x] st = some ((mkL 4 (conL x)).view, st) := by
  have e := irR hx hm
  unfold conL
  cases hr : rightT x with
  | true =>
    simp only [if_true]
    exact make_body wl lim st hx hm (right_X hx hm hr) (by rw [e, hr])
  | false =>
    have hs := hx.sl
    simp only [xAV, hr] at e
    refine call_pure (sf := s10) rfl rfl (by simp [hx.pure]) rfl (by simp) ?_
    simp [s10, xAV, hs, e, mkL_nil, AV.view]
theorem rmake_ok (wl lim : Nat) (st : Store) : (orcL S).call wl lim 11 [xAV x] st = some (mkL 4 (conL x), st) := by
  have e := rrR hx hm
  have hs := hx.sl
  unfold conL
  refine call_pure (sf := s11) rfl rfl (by simp [hx.pure]) rfl (by simp) ?_
  cases hr : rightT x with
  | true =>
    have eo := fun wl lim st => makeOf_ok wl lim st hx hm (right_X hx hm hr)
    simp only [xAV, hr] at e eo
    simp [s11, xAV, hs, e, eo]
  | false =>
    simp only [xAV, hr] at e
    simp [s11, xAV, hs, e, mkL_nil]
theorem count_ok (wl lim : Nat) (st : Store) : (orcL S).call wl lim 12 [xAV x] st = some (.int .i64 (countT x), st) := by
  have e := irR hx hm
  have ev := fun wl lim st => variables_ok wl lim st hx hm
  have hs := hx.sl
  have hlc := rowsL_C hx.codes
  have hlg := rowsL_T hx.globals
  have b1 := hm.all
  have b2 := hm.codes
  have b3 := hm.globals
  have w1 : IntKind.i64.wrap ((sumV (dCs x.codes) : Int) + ((dCs x.codes).length : Int)) = (sumV (dCs x.codes) : Int) + ((dCs x.codes).length : Int) := by rw [wrap64] <;> omega
  have w2 : IntKind.i64.wrap ((sumV (dCs x.codes) : Int) + ((dCs x.codes).length : Int) + ((dTs x.globals).length : Int)) = (sumV (dCs x.codes) : Int) + ((dCs x.codes).length : Int) + ((dTs x.globals).length : Int) := by rw [wrap64] <;> omega
  unfold countT
  simp only [xAV] at e ev
  refine call_pure (sf := s12) rfl rfl (by simp [hx.pure]) rfl (by simp) ?_
  cases hr : rightT x <;> simp [s12, xAV, hs, hlc, hlg, e, ev, hr, w1, w2, W_draw0, noBoxes]
theorem rcount_ok (wl lim : Nat) (st : Store) : (orcL S).call wl lim 13 [xAV x] st = some (.int .i64 (countT x), st) := by
  have e := rrR hx hm
  have ev := fun wl lim st => vars_ok wl lim (dCs x.codes).length st hx hm (Nat.le_refl _)
  have hs := hx.sl
  have hlc := rowsL_C hx.codes
  have hlg := rowsL_T hx.globals
  have b1 := hm.all
  have b2 := hm.codes
  have b3 := hm.globals
  have w1 : IntKind.i64.wrap ((sumV (dCs x.codes) : Int) + ((dCs x.codes).length : Int)) = (sumV (dCs x.codes) : Int) + ((dCs x.codes).length : Int) := by rw [wrap64] <;> omega
  have w2 : IntKind.i64.wrap ((sumV (dCs x.codes) : Int) + ((dCs x.codes).length : Int) + ((dTs x.globals).length : Int)) = (sumV (dCs x.codes) : Int) + ((dCs x.codes).length : Int) + ((dTs x.globals).length : Int) := by rw [wrap64] <;> omega
  unfold countT
  simp only [xAV, List.take_length] at e ev
  refine call_pure (sf := s13) rfl rfl (by simp [hx.pure]) rfl (by simp) ?_
  cases hr : rightT x <;> simp [s13, xAV, hs, hlc, hlg, e, ev, hr, w1, w2, W_draw0, noBoxes]
end
end U12

namespace U12
open Ax Go Code19
set_option maxRecDepth 100000
theorem known0 : (orcL S).call 0 0 14 [] [] = some (.bool true, []) := by
  have h : says ((korc S 300).call 0 0 14 [] []) = true := by kernel_rfl
  exact call_k (says_eq h)
end U12

namespace U12
open Ax Go Code19 IrV
set_option maxRecDepth 100000
set_option maxHeartbeats 8000000

def cRow (r : List AV) : Bool := match r with | [.int .i64 _, .int .i64 _, .int .i64 _, .int .i64 _] => true | _ => false
theorem cRow_eq {r : List AV} (h : cRow r = true) : ∃ a b c d, r = conR a b c d := by
  unfold cRow at h
  split at h
  · exact ⟨_, _, _, _, rfl⟩
  · cases h
def cAll (l : List (List AV)) : Bool := l.all cRow
theorem cAll_app (a b : List (List AV)) : cAll (a ++ b) = (cAll a && cAll b) := by simp [cAll]
theorem cAll_ite (p : Prop) [Decidable p] (a b : List (List AV)) : cAll (if p then a else b) = if p then cAll a else cAll b := by
  by_cases h : p <;> simp [h]
theorem cAll_argC (c : CD) (to a : Int) (l : List Int) : ∀ j : Nat, cAll (argC c to a l j) = true
  | 0 => rfl
  | j + 1 => by
    have ih := cAll_argC c to a l j
    simp only [argC, List.range_succ, List.flatMap_append, cAll_app, List.flatMap_cons, List.flatMap_nil, List.append_nil, Bool.and_eq_true] at *
    refine ⟨ih, ?_⟩
    split <;> rfl
theorem cAll_conT (x : XD) (k : Nat) (c : CD) (i : ID) : cAll (conT x k c i) = true := by
  have h0 : cAll [] = true := rfl
  have h1 : ∀ a b d e, cAll [conR a b d e] = true := fun _ _ _ _ => rfl
  simp only [conT, cAll_ite, cAll_app, cAll_argC, h0, h1, ite_self, Bool.and_self]
theorem cAll_conI (x : XD) (k : Nat) (c : CD) : ∀ j : Nat, j ≤ (dNs c.ins).length → cAll (conI x k c j) = true
  | 0, _ => rfl
  | j + 1, h => by rw [conI_succ (by omega), cAll_app, cAll_conI x k c j (by omega), cAll_conT]; rfl
theorem cAll_conN (x : XD) : ∀ k : Nat, k ≤ (dCs x.codes).length → cAll (conN x k) = true
  | 0, _ => rfl
  | k + 1, h => by rw [conN_succ (by omega), cAll_app, cAll_conN x k (by omega), cAll_conI _ _ _ _ (Nat.le_refl _)]; rfl
theorem cAll_conL (x : XD) : cAll (conL x) = true := by
  unfold conL
  split
  · exact cAll_conN x _ (Nat.le_refl _)
  · rfl
theorem fits_conL (x : XD) : fits 4 (conL x) = true := by
  unfold conL
  split
  · exact fits_conN x _ (Nat.le_refl _)
  · rfl
theorem conL_len {x : XD} (hx : x.ok) (hm : Sm x) : (conL x).length < 10000000 := by
  unfold conL
  split
  · rename_i h
    have := conN_len hm (right_X hx hm h) _ (Nat.le_refl _)
    have := hm.codes
    omega
  · simp

theorem same_ok (wl lim : Nat) (a b : AV) (l : List (List AV)) (st : Store) (ha : isSz 4 a = true) (hb : isSz 4 b = true) (hla : rowsL a = l) (hlb : rowsL b = l) (hc : cAll l = true) (hn : l.length < 10000000) :
    (orcL S).call wl lim 9 [a, b] st = some (.bool true, st) := by
  have h1 := isSl_sz ha
  have h2 := isSl_sz hb
  refine call_pure (sf := s9) rfl rfl (by simp [pure_sl h1, pure_sl h2]) rfl (by simp) ?_
  simp [s9, h1, h2, hla, hlb]
  refine W_loopI s9_l0.eq_1 (fun k : Nat => ⟨[(0, .val a), (1, .val b), (5, .val (.int .i64 k))], [], []⟩) (fun k => k ≤ l.length) (fun k => l.length - k) 0 (by simp) (by simp) ?_
  intro k hk ih
  by_cases hlt : k < l.length
  · have hw : IntKind.i64.wrap ((k : Int) + 1) = ((k + 1 : Nat) : Int) := by rw [wrap64] <;> omega
    obtain ⟨p, q, r, s, hrow⟩ := cRow_eq (List.all_eq_true.1 hc _ (List.getElem_mem hlt))
    simp [h1, ha, hb, hla, hlb, hlt, hrow, hw, W_draw0, noBoxes, AV.view]
    exact ih (k + 1) (by omega) (by omega)
  · simp [h1, hla, hlt]

theorem known_any (wl lim : Nat) (st : Store) : (orcL S).call wl lim 14 [] st = some (.bool true, st) :=
  call_any (sf := s14) rfl rfl rfl known0 wl lim st

theorem law_make (x : XD) (hx : x.ok) : (orcL S).call 0 0 3 [xAV x] [] = some (.bool true, []) := by
  have hs := hx.sl
  have hg := great_ok 0 0 [] hx
  simp only [xAV] at hg
  refine call_pure (sf := s3) rfl rfl (by simp [hx.pure]) rfl (by simp) ?_
  cases eg : greatT x with
  | true => simp [s3, xAV, hs, hg, eg]
  | false =>
    have hm := great_Sm eg
    have e1 := make_ok hx hm 0 0 []
    have e2 := rmake_ok hx hm 0 0 []
    have e3 := count_ok hx hm 0 0 []
    have e4 := rcount_ok hx hm 0 0 []
    have e5 := same_ok 0 0 (mkL 4 (conL x)).view (mkL 4 (conL x)) (conL x) [] (by simp [fits_conL]) (by simp [fits_conL]) (by simp) (by simp) (cAll_conL x) (conL_len hx hm)
    have e6 := known_any 0 0 []
    simp only [xAV] at e1 e2 e3 e4
    simp [s3, xAV, hs, hg, eg, e1, e2, e3, e4, e5, e6, W_draw0, noBoxes]
end U12
