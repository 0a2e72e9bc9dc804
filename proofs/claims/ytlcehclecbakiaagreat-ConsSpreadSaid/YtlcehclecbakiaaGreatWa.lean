/- Part of a proof. -/
import Derived.Test.YtlcehclecbakiaaGreatP

namespace U12
open Ax Go Code19 IrV
set_option maxRecDepth 100000
set_option maxHeartbeats 4000000

/-! ### Nodes -/
def nvs (c : CD) : Nat := (dTs c.vars).length
def sumV (l : List CD) : Nat := (l.map nvs).sum
theorem sumV_take {l : List CD} {k : Nat} (h : k < l.length) : sumV (l.take (k + 1)) = sumV (l.take k) + nvs l[k] := by
  rw [List.take_succ_eq_append_getElem h]
  simp only [sumV, List.map_append, List.sum_append, List.map_cons, List.map_nil, List.sum_cons, List.sum_nil, Nat.add_zero]
theorem sumV_le (l : List CD) (k : Nat) : sumV (l.take k) ≤ sumV l := by
  have : l = l.take k ++ l.drop k := (List.take_append_drop k l).symm
  conv => rhs; rw [this]
  simp only [sumV, List.map_append, List.sum_append]
  omega
theorem sumV_bound : ∀ (l : List CD) (m : Nat), (∀ g ∈ l, nvs g ≤ m) → sumV l ≤ l.length * m
  | [], _, _ => by simp [sumV]
  | c :: l, m, h => by
    have ih := sumV_bound l m fun g hg => h g (List.mem_cons_of_mem _ hg)
    have h1 := h c List.mem_cons_self
    simp only [sumV, List.map_cons, List.sum_cons, List.length_cons] at *
    rw [Nat.succ_mul]; omega

/-- How many variables stand ahead of each code, and ahead of the results. -/
def nodesL (l : List CD) (k : Nat) : List Int := (List.range (k + 1)).map fun j => (sumV (l.take j) : Int)
theorem nodesL_len (l : List CD) (k : Nat) : (nodesL l k).length = k + 1 := by simp [nodesL]
theorem nodesL_get (l : List CD) (k j : Nat) (h : j < (nodesL l k).length) : (nodesL l k)[j] = (sumV (l.take j) : Int) := by simp [nodesL]
theorem nodesL_succ (l : List CD) (k : Nat) : nodesL l (k + 1) = nodesL l k ++ [(sumV (l.take (k + 1)) : Int)] := by
  simp [nodesL, List.range_succ]
theorem nodesL_zero (l : List CD) : nodesL l 0 = [0] := by simp [nodesL, sumV]

/-- What the law's programs are like: few codes of few variables. -/
structure Sm (x : XD) : Prop where
  codes : (dCs x.codes).length ≤ 20
  vars : ∀ g ∈ dCs x.codes, nvs g ≤ 300
  ins : ∀ g ∈ dCs x.codes, (dNs g.ins).length ≤ 300
  globals : (dTs x.globals).length ≤ 20
theorem Sm.sum {x : XD} (h : Sm x) (k : Nat) : sumV ((dCs x.codes).take k) ≤ 6000 := by
  have h1 := sumV_le (dCs x.codes) k
  have h2 := sumV_bound (dCs x.codes) 300 h.vars
  have h3 := h.codes
  have : (dCs x.codes).length * 300 ≤ 20 * 300 := Nat.mul_le_mul_right _ h3
  omega
theorem Sm.all {x : XD} (h : Sm x) : sumV (dCs x.codes) ≤ 6000 := by
  have := h.sum (dCs x.codes).length
  rwa [List.take_length] at this

theorem freezeLL_ints {wl : Nat} : ∀ (l : List Int) (st : Store), freezeLL wl (ints l) st = some (ints l, st)
  | [], st => rfl
  | n :: l, st => by
    have ih := freezeLL_ints (wl := wl) l st
    simp only [ints, List.map_cons] at *
    simp [freezeLL, freezeL, freezeC, AV.isPure, AV.view, ih]

/-! ### cons -/
theorem a_litI {wl lim : Nat} {a : Int} {st : Store} {bx : Boxes} : act0 wl lim (.litM 1 1 [.int .i64 0] [0]) [.val (.int .i64 a)] st bx = some (.val (.mu st.length 0), st ++ [.rows 0 1 [[.int .i64 a]]], bx) := rfl
theorem nodes_ok (wl lim : Nat) {x : XD} (st : Store) (hx : x.ok) (hm : Sm x) :
    (orcL S).call wl lim 26 [xAV x] st = some (.lst 1 (ints (nodesL (dCs x.codes) (dCs x.codes).length)), st) := by
  have hs := hx.sl
  have hC := hx.codes
  have hl := rowsL_C hx.codes
  have hcl := hm.codes
  refine call_pure (sf := s26) rfl rfl (by simp [hx.pure]) rfl (by simp [AV.isPure]) ?_
  simp [s26, xAV, hs, hl, a_litI]
  refine W_loopI s26_l0.eq_1 (fun q : Nat × List AV => ⟨[(3, .val (.mu 0 q.1)), (8, .val x.codes), (9, .val (.int .i64 (dCs x.codes).length)), (10, .val (.int .i64 q.1))], [[x.recs, x.globals, x.codes, x.sites, .int .i64 x.main], q.2], [.rows q.1 1 (ints (nodesL (dCs x.codes) q.1))]⟩)
    (fun q => q.1 ≤ (dCs x.codes).length) (fun q => (dCs x.codes).length - q.1) (0, []) (by rw [nodesL_zero]; rfl) (by simp) ?_
  rintro ⟨k, bb⟩ hk ih
  simp only at hk ih
  by_cases hlt : k < (dCs x.codes).length
  · have hw : IntKind.i64.wrap ((k : Int) + 1) = ((k + 1 : Nat) : Int) := by rw [wrap64] <;> omega
    have hF := isCs_get hC _ (List.getElem_mem hlt)
    have hFs := isSl_T hF.1
    have hFv := isTs_vw hF.1
    have hFl := rowsL_T hF.1
    have hGs := isSl_N hF.2
    have hGv := isNs_vw hF.2
    have b1 := hm.sum k
    have b2 := hm.vars _ (List.getElem_mem hlt)
    have hst := sumV_take hlt
    have hw2 : IntKind.i64.wrap ((sumV ((dCs x.codes).take k) : Int) + ((dTs (dCs x.codes)[k].vars).length : Int)) = (sumV ((dCs x.codes).take (k + 1)) : Int) := by
      have : nvs (dCs x.codes)[k] = (dTs (dCs x.codes)[k].vars).length := rfl
      rw [wrap64] <;> omega
    have hw3 : IntKind.i64.wrap (k : Int) = (k : Int) := by rw [wrap64] <;> omega
    have hg := nodesL_get (dCs x.codes) k k (by rw [nodesL_len]; omega)
    have hln := nodesL_len (dCs x.codes) k
    have hrm : (k + 1 + 1) * 8 ≤ room := by unfold room; omega
    have hlk : (k : Int) < (k : Int) + 1 := by omega
    simp [hs, hC, hl, hlt, CD.cells, hFs, hFv, hFl, hGs, hGv, hw, hw2, hw3, hln, hg, hlk, hrm, fits, W_draw0, noBoxes, AV.allPure, AV.isPure, ← nodesL_succ]
    exact ih (k + 1, _) (by simp; omega) (by simp; omega)
  · have hkl : k = (dCs x.codes).length := by omega
    subst hkl
    have hne : (ints (nodesL (dCs x.codes) (dCs x.codes).length)).isEmpty = false := by
      rw [List.isEmpty_eq_false_iff]
      intro h
      have := congrArg List.length h
      rw [ints_len, nodesL_len] at this
      simp at this
    simp
    rw [W_frz]
    refine ⟨_, .lst 1 (ints (nodesL (dCs x.codes) (dCs x.codes).length)), [.rows ((dCs x.codes).length + 1) 1 []], rfl, ?_, ?_⟩
    · simp [freezeV, hne, freezeLL_ints]
    · simp
end U12

namespace U12
open Ax Go Code19 IrV
set_option maxRecDepth 100000
set_option maxHeartbeats 4000000

theorem variables_ok (wl lim : Nat) {x : XD} (st : Store) (hx : x.ok) (hm : Sm x) :
    (orcL S).call wl lim 27 [xAV x] st = some (.int .i64 (sumV (dCs x.codes)), st) := by
  have hs := hx.sl
  have hl := rowsL_C hx.codes
  have e := nodes_ok 0 0 [] hx hm
  simp only [xAV] at e
  have hln := nodesL_len (dCs x.codes) (dCs x.codes).length
  have hg := nodesL_get (dCs x.codes) (dCs x.codes).length (dCs x.codes).length (by rw [hln]; omega)
  rw [List.take_length] at hg
  have hlk : ((dCs x.codes).length : Int) < ((dCs x.codes).length : Int) + 1 := by omega
  refine call_pure (sf := s27) rfl rfl (by simp [hx.pure]) rfl (by simp) ?_
  simp [s27, xAV, hs, hl, e, hln, hg, hlk, W_draw0, noBoxes]

theorem vars_ok (wl lim : Nat) {x : XD} (k : Nat) (st : Store) (hx : x.ok) (hm : Sm x) (hk : k ≤ (dCs x.codes).length) :
    (orcL S).call wl lim 30 [xAV x, .int .i64 k] st = some (.int .i64 (sumV ((dCs x.codes).take k)), st) := by
  have hs := hx.sl
  have hC := hx.codes
  have hl := rowsL_C hx.codes
  have hcl := hm.codes
  refine call_pure (sf := s30) rfl rfl (by simp [hx.pure]) rfl (by simp) ?_
  simp [s30, xAV, hs]
  refine W_loopI s30_l0.eq_1 (fun j : Nat => ⟨[(1, .val (.int .i64 k)), (2, .fp 0 0), (5, .val (.int .i64 (sumV ((dCs x.codes).take j)))), (6, .val (.int .i64 j))], [[x.recs, x.globals, x.codes, x.sites, .int .i64 x.main]], []⟩)
    (fun j => j ≤ k) (fun j => k - j) 0 (by simp [sumV]) (by simp) ?_
  intro j hj ih
  by_cases hlt : j < k
  · have hjl : j < (dCs x.codes).length := by omega
    have hw : IntKind.i64.wrap ((j : Int) + 1) = ((j + 1 : Nat) : Int) := by rw [wrap64] <;> omega
    have hF := isCs_get hC _ (List.getElem_mem hjl)
    have hFs := isSl_T hF.1
    have hFv := isTs_vw hF.1
    have hFl := rowsL_T hF.1
    have b1 := hm.sum j
    have b2 := hm.vars _ (List.getElem_mem hjl)
    have hst := sumV_take hjl
    have hw2 : IntKind.i64.wrap ((sumV ((dCs x.codes).take j) : Int) + ((dTs (dCs x.codes)[j].vars).length : Int)) = (sumV ((dCs x.codes).take (j + 1)) : Int) := by
      have : nvs (dCs x.codes)[j] = (dTs (dCs x.codes)[j].vars).length := rfl
      rw [wrap64] <;> omega
    simp [hs, hC, hl, hlt, hjl, CD.cells, hFs, hFv, hFl, hw, hw2]
    exact ih (j + 1) (by omega) (by omega)
  · have : j = k := by omega
    subst this
    simp

theorem varOf_ok (wl lim : Nat) {x : XD} (f v : Nat) (st : Store) (hx : x.ok) (hm : Sm x) (hf : f ≤ (dCs x.codes).length) (hv : v < 1000) :
    (orcL S).call wl lim 49 [xAV x, .int .i64 f, .int .i64 v] st = some (.int .i64 (sumV ((dCs x.codes).take f) + v), st) := by
  have hs := hx.sl
  have e := vars_ok 0 0 f [] hx hm hf
  simp only [xAV] at e
  have b := hm.sum f
  have hw : IntKind.i64.wrap ((sumV ((dCs x.codes).take f) : Int) + (v : Int)) = (sumV ((dCs x.codes).take f) : Int) + (v : Int) := by rw [wrap64] <;> omega
  refine call_pure (sf := s49) rfl rfl (by simp [hx.pure]) rfl (by simp) ?_
  simp [s49, xAV, hs, e, hw]

theorem resultOf_ok (wl lim : Nat) {x : XD} (f : Nat) (st : Store) (hx : x.ok) (hm : Sm x) (hf : f < 1000) :
    (orcL S).call wl lim 50 [xAV x, .int .i64 f] st = some (.int .i64 (sumV (dCs x.codes) + f), st) := by
  have hs := hx.sl
  have hl := rowsL_C hx.codes
  have e := vars_ok 0 0 (dCs x.codes).length [] hx hm (Nat.le_refl _)
  simp only [xAV, List.take_length] at e
  have b := hm.all
  have hw : IntKind.i64.wrap ((sumV (dCs x.codes) : Int) + (f : Int)) = (sumV (dCs x.codes) : Int) + (f : Int) := by rw [wrap64] <;> omega
  refine call_pure (sf := s50) rfl rfl (by simp [hx.pure]) rfl (by simp) ?_
  simp [s50, xAV, hs, hl, e, hw]

theorem globalOf_ok (wl lim : Nat) {x : XD} (g : Nat) (st : Store) (hx : x.ok) (hm : Sm x) (hg : g < 1000) :
    (orcL S).call wl lim 51 [xAV x, .int .i64 g] st = some (.int .i64 (sumV (dCs x.codes) + (dCs x.codes).length + g), st) := by
  have hs := hx.sl
  have hl := rowsL_C hx.codes
  have e := vars_ok 0 0 (dCs x.codes).length [] hx hm (Nat.le_refl _)
  simp only [xAV, List.take_length] at e
  have b := hm.all
  have b2 := hm.codes
  have hw0 : IntKind.i64.wrap ((sumV (dCs x.codes) : Int) + ((dCs x.codes).length : Int)) = (sumV (dCs x.codes) : Int) + ((dCs x.codes).length : Int) := by rw [wrap64] <;> omega
  have hw : IntKind.i64.wrap ((sumV (dCs x.codes) : Int) + ((dCs x.codes).length : Int) + (g : Int)) = (sumV (dCs x.codes) : Int) + ((dCs x.codes).length : Int) + (g : Int) := by rw [wrap64] <;> omega
  refine call_pure (sf := s51) rfl rfl (by simp [hx.pure]) rfl (by simp) ?_
  simp [s51, xAV, hs, hl, e, hw0, hw, W_draw0, noBoxes]

/-! ### cons.maker -/
abbrev conR (k a b f : Int) : List AV := [.int .i64 k, .int .i64 a, .int .i64 b, .int .i64 f]
/-- A maker, with what it has made. -/
abbrev moR (c : CD) (nd : AV) (f many : Int) (codes l : AV) : AObj := .rows 0 12 [[.int .i64 c.params, c.vars, .bool c.has, .int .i64 c.res.b, .int .i64 c.res.r, .int .i64 c.res.d, c.ins, nd, .int .i64 f, .int .i64 many, codes, l]]
abbrev mo (c : CD) (nd : AV) (f many : Int) (codes : AV) (rows : List (List AV)) : AObj := moR c nd f many codes (mkL 4 rows)

theorem a_take {lim : Nat} {c : CD} {nd : AV} {f many : Int} {codes : AV} {rows : List (List AV)} {bx : Boxes} :
    act0 0 lim (.load false 1 true) [.val (.ptr 0 0 0 11)] [mo c nd f many codes rows] bx = some (.val (mkL 4 rows), [moR c nd f many codes (AV.took (mkL 4 rows))], bx) := by
  have hv : mkL 4 rows = .nilSl ∨ ∃ r, mkL 4 rows = .own 4 r := by
    unfold mkL
    split
    · exact .inl rfl
    · exact .inr ⟨_, rfl⟩
  show act0 0 lim (.load false 1 true) [.val (.ptr 0 0 0 11)] [moR c nd f many codes (mkL 4 rows)] bx = _
  generalize mkL 4 rows = v at *
  rcases hv with rfl | ⟨r, rfl⟩ <;> simp [act0, readP, cut, writeP, mayWrite, AV.took, AV.allPure, AV.isPure, paste, oneOrAgg]

theorem add_ok (lim : Nat) {c : CD} {nd : AV} {f many : Int} {codes : AV} {rows : List (List AV)} (k a b fd : Int) (hr : rows.length < 1000000000) :
    (orcL S).call 0 lim 56 [.ptr 0 0 0 0, .int .i64 k, .int .i64 a, .int .i64 b, .int .i64 fd] [mo c nd f many codes rows] = some (.tup [], [mo c nd f many codes (rows ++ [conR k a b fd])]) := by
  have hap : appV 4 32 (mkL 4 rows) [conR k a b fd] = some (mkL 4 (rows ++ [conR k a b fd])) := appV_mk (by simp [fits]) (by simp [room]; omega)
  have hp := pure_sl (isSl_mk (sz := 4) (r := rows ++ [conR k a b fd]))
  refine call_run (sf := s56) rfl rfl rfl ?_
  simp [s56, a_take, hap, mayWrite, AV.allPure, paste]


/-! ### a maker at a code -/
abbrev ndL (x : XD) : AV := .lst 1 (ints (nodesL (dCs x.codes) (dCs x.codes).length))
abbrev mx (x : XD) (k : Nat) (c : CD) (rows : List (List AV)) : AObj := mo c (ndL x) k (sumV (dCs x.codes)) x.codes rows

def inV (c : CD) (n : Int) : Prop := 0 ≤ n ∧ n < (dTs c.vars).length
def rf (c : CD) (n : Int) : Bool := refT (ofT (dTs c.vars) n)
/-- Where a code's variables stand. -/
def atN (x : XD) (k : Nat) : Int := sumV ((dCs x.codes).take k)

/-- A code that a maker is at. -/
structure MC (x : XD) (k : Nat) (c : CD) : Prop where
  xo : x.ok
  m : Sm x
  kl : k < (dCs x.codes).length
  cd : (dCs x.codes)[k] = c
theorem MC.T {x : XD} {k : Nat} {c : CD} (h : MC x k c) : isTs c.vars = true := by
  have := (isCs_get h.xo.codes _ (List.getElem_mem h.kl)).1
  rwa [h.cd] at this
theorem MC.N {x : XD} {k : Nat} {c : CD} (h : MC x k c) : isNs c.ins = true := by
  have := (isCs_get h.xo.codes _ (List.getElem_mem h.kl)).2
  rwa [h.cd] at this
theorem MC.nv {x : XD} {k : Nat} {c : CD} (h : MC x k c) : (dTs c.vars).length ≤ 300 := by
  have := h.m.vars _ (List.getElem_mem h.kl)
  rwa [h.cd] at this
theorem MC.at0 {x : XD} {k : Nat} {c : CD} (h : MC x k c) (j : Nat) : 0 ≤ atN x j ∧ atN x j ≤ 6000 := by
  have := h.m.sum j
  unfold atN
  omega

section
variable {x : XD} {k : Nat} {c : CD} {rows : List (List AV)} {lim : Nat}

theorem v_ok (h : MC x k c) (n : Int) (h0 : 0 ≤ n) (h1 : n < 1000) :
    (orcL S).call 0 lim 57 [.ptr 0 0 0 0, .int .i64 n] [mx x k c rows] = some (.int .i64 (atN x k + n), [mx x k c rows]) := by
  have hk := h.kl
  have hb := h.at0 k
  have hln := nodesL_len (dCs x.codes) (dCs x.codes).length
  have hgi : (ints (nodesL (dCs x.codes) (dCs x.codes).length))[k]? = some [.int .i64 (atN x k)] := by
    rw [List.getElem?_eq_getElem (by rw [ints_len, hln]; omega), ints_get, nodesL_get]; rfl
  have hlk : (k : Int) < ((dCs x.codes).length : Int) + 1 := by omega
  have hw : IntKind.i64.wrap (atN x k + n) = atN x k + n := by rw [wrap64] <;> omega
  refine call_run (sf := s57) rfl rfl rfl ?_
  simp [s57, cut, hln, hgi, hlk, hw, W_draw0, noBoxes, AV.view]

theorem mref_ok (h : MC x k c) (n : Int) (h1 : n < (dTs c.vars).length) :
    (orcL S).call 0 lim 59 [.ptr 0 0 0 0, .int .i64 n] [mx x k c rows] = some (.bool (rf c n), [mx x k c rows]) := by
  have hT := h.T
  have hTs := isSl_T hT
  have hTv := isTs_vw hT
  have hTl := rowsL_T hT
  have hr := fun a b c st => ref_ok 0 0 a b c st
  refine call_run (sf := s59) rfl rfl rfl ?_
  by_cases h0 : 0 ≤ n
  · have hn : n.toNat < (dTs c.vars).length := by omega
    have hrf : rf c n = refT (dTs c.vars)[n.toNat] := by simp [rf, ofT, h0, hn]
    have hr2 := fun wl lim st => ref_ok wl lim (dTs c.vars)[n.toNat].b (dTs c.vars)[n.toNat].r (dTs c.vars)[n.toNat].d st
    simp [s59, h0, h1, cut, hTv, hTl, hT, hn, hr2, hrf]
  · have hrf : rf c n = false := by simp [rf, ofT, h0, refT, T0]
    simp [s59, h0, hrf]

theorem mres_ok (h : MC x k c) (n : Int) (h0 : 0 ≤ n) (h1 : n < 1000) :
    (orcL S).call 0 lim 60 [.ptr 0 0 0 0, .int .i64 n] [mx x k c rows] = some (.int .i64 ((sumV (dCs x.codes) : Int) + n), [mx x k c rows]) := by
  have hb := h.m.all
  have hw : IntKind.i64.wrap ((sumV (dCs x.codes) : Int) + n) = (sumV (dCs x.codes) : Int) + n := by rw [wrap64] <;> omega
  refine call_run (sf := s60) rfl rfl rfl ?_
  simp [s60, cut, hw]

theorem mglob_ok (h : MC x k c) (n : Int) (h0 : 0 ≤ n) (h1 : n < 1000) :
    (orcL S).call 0 lim 61 [.ptr 0 0 0 0, .int .i64 n] [mx x k c rows] = some (.int .i64 ((sumV (dCs x.codes) : Int) + (dCs x.codes).length + n), [mx x k c rows]) := by
  have hb := h.m.all
  have hb2 := h.m.codes
  have hs := h.xo.sl
  have hl := rowsL_C h.xo.codes
  have hw0 : IntKind.i64.wrap ((sumV (dCs x.codes) : Int) + ((dCs x.codes).length : Int)) = (sumV (dCs x.codes) : Int) + (dCs x.codes).length := by rw [wrap64] <;> omega
  have hw : IntKind.i64.wrap ((sumV (dCs x.codes) : Int) + ((dCs x.codes).length : Int) + n) = (sumV (dCs x.codes) : Int) + (dCs x.codes).length + n := by rw [wrap64] <;> omega
  refine call_run (sf := s61) rfl rfl rfl ?_
  simp [s61, cut, hs, hl, hw0, hw, W_draw0, noBoxes]
end
end U12

namespace U12
open Ax Go Code19 IrV
set_option maxRecDepth 100000
set_option maxHeartbeats 8000000

/-- What goes to a call's variables, of the first j. -/
def argC (c : CD) (to a : Int) (l : List Int) (j : Nat) : List (List AV) := (List.range j).flatMap fun q => if rf c (l.getD q 0) then [conR 2 (to + q) (a + l.getD q 0) 0] else []
theorem argC_succ (c : CD) (to a : Int) (l : List Int) (j : Nat) (h : j < l.length) : argC c to a l (j + 1) = argC c to a l j ++ if rf c l[j] then [conR 2 (to + j) (a + l[j]) 0] else [] := by
  simp [argC, List.range_succ, h]
theorem argC_len (c : CD) (to a : Int) (l : List Int) : ∀ j : Nat, (argC c to a l j).length ≤ j
  | 0 => by simp [argC]
  | j + 1 => by
    have ih := argC_len c to a l j
    simp only [argC, List.range_succ, List.flatMap_append, List.length_append] at *
    have h1 : ∀ (p : Bool) (r : List AV), (if p = true then [r] else []).length ≤ 1 := fun p r => by cases p <;> simp
    have h2 := h1 (rf c (l.getD j 0)) (conR 2 (to + j) (a + l.getD j 0) 0)
    simp only [List.flatMap_cons, List.flatMap_nil, List.append_nil]
    omega

/-- The constraints of an instruction. -/
def conT (x : XD) (k : Nat) (c : CD) (i : ID) : List (List AV) :=
  if i.op = 3 then (if rf c i.a then [conR 2 (atN x k + i.a) (atN x k + i.b) 0] else []) else
  if i.op = 6 then (if rf c i.a then [conR 3 (atN x k + i.a) (atN x k + i.b) i.c] else []) else
  if i.op = 8 then (if rf c i.a then [conR 3 (atN x k + i.a) (atN x k + i.b) 0] else []) else
  if i.op = 7 then (if rf c i.b then [conR 4 (atN x k + i.a) (atN x k + i.b) i.c] else []) else
  if i.op = 9 then (if rf c i.c then [conR 4 (atN x k + i.a) (atN x k + i.c) 0] else []) else
  if i.op = 11 ∨ i.op = 12 then [conR 1 (atN x k + i.a) i.n 0] else
  if i.op = 13 then argC c (atN x i.c.toNat) (atN x k) (dI i.args) (dI i.args).length ++ (if rf c i.a then [conR 2 (atN x k + i.a) (sumV (dCs x.codes) + i.c) 0] else []) else
  if i.op = 18 then (if rf c i.a then [conR 2 (sumV (dCs x.codes) + k) (atN x k + i.a) 0] else []) else
  if i.op = 19 then (if rf c i.a then [conR 2 (atN x k + i.a) (sumV (dCs x.codes) + (dCs x.codes).length + i.n) 0] else []) else
  if i.op = 20 then (if rf c i.a then [conR 2 (sumV (dCs x.codes) + (dCs x.codes).length + i.n) (atN x k + i.a) 0] else []) else []

/-- What a right program's instruction is like. -/
structure IOk (x : XD) (c : CD) (i : ID) : Prop where
  args : isI i.args = true
  no : notOwn i.args = true
  a : i.op = 3 ∨ i.op = 6 ∨ i.op = 7 ∨ i.op = 8 ∨ i.op = 9 ∨ i.op = 11 ∨ i.op = 12 ∨ i.op = 19 ∨ i.op = 20 → inV c i.a
  b : i.op = 3 ∨ i.op = 6 ∨ i.op = 7 ∨ i.op = 8 → inV c i.b
  cv : i.op = 9 → inV c i.c
  call : i.op = 13 → 0 ≤ i.c ∧ i.c < (dCs x.codes).length ∧ (∀ q ∈ dI i.args, inV c q) ∧ (i.a = -1 ∨ inV c i.a) ∧ (dI i.args).length ≤ 300
  ret : i.op = 18 → i.a = -1 ∨ inV c i.a
  glob : i.op = 19 ∨ i.op = 20 → 0 ≤ i.n ∧ i.n < (dTs x.globals).length

theorem conT_len {x : XD} {k : Nat} {c : CD} {i : ID} (h : IOk x c i) : (conT x k c i).length ≤ 301 := by
  unfold conT
  have h1 := argC_len c (atN x i.c.toNat) (atN x k) (dI i.args) (dI i.args).length
  by_cases h13 : i.op = 13
  · have := (h.call h13).2.2.2.2
    simp only [h13]
    simp
    split <;> simp <;> omega
  · simp only [h13, if_false]
    repeat' split
    all_goals simp

section
variable {x : XD} {k : Nat} {c : CD} {i : ID} {rows : List (List AV)} {lim : Nat}

theorem moves_ok (h : MC x k c) (hi : IOk x c i) (hr : rows.length < 900000000) (hop : ¬ (i.op = 11 ∨ i.op = 12) ∧ i.op ≠ 13 ∧ i.op ≠ 18 ∧ i.op ≠ 19 ∧ i.op ≠ 20) :
    (orcL S).call 0 lim 62 [.ptr 0 0 0 0, idAV i] [mx x k c rows] = some (.tup [], [mx x k c (rows ++ conT x k c i)]) := by
  obtain ⟨o1, o2, o3, o4, o5⟩ := hop
  have hs := isSl_I hi.args
  have hv := view_notOwn hi.no hs
  have hp := pure_sl hs
  have hvn := h.nv
  have e1 := fun lim n h0 h1 => v_ok (rows := rows) (lim := lim) h n h0 h1
  have e2 := fun lim n h1 => mref_ok (rows := rows) (lim := lim) h n h1
  have e3 := fun lim kk a b fd => add_ok (c := c) (nd := ndL x) (f := (k : Int)) (many := (sumV (dCs x.codes) : Int)) (codes := x.codes) (rows := rows) lim kk a b fd (by omega)
  refine call_run (sf := s62) rfl rfl rfl ?_
  unfold conT
  by_cases p3 : i.op = 3
  · obtain ⟨a0, a1⟩ := hi.a (by omega)
    obtain ⟨b0, b1⟩ := hi.b (by omega)
    have ea := fun lim => e1 lim i.a a0 (by omega)
    have eb := fun lim => e1 lim i.b b0 (by omega)
    have er := fun lim => e2 lim i.a a1
    cases hrf : rf c i.a <;> simp [s62, idAV, hs, p3, ea, eb, er, e3, hrf, W_draw0, noBoxes]
  by_cases p6 : i.op = 6
  · obtain ⟨a0, a1⟩ := hi.a (by omega)
    obtain ⟨b0, b1⟩ := hi.b (by omega)
    have ea := fun lim => e1 lim i.a a0 (by omega)
    have eb := fun lim => e1 lim i.b b0 (by omega)
    have er := fun lim => e2 lim i.a a1
    cases hrf : rf c i.a <;> simp [s62, idAV, hs, p6, ea, eb, er, e3, hrf, W_draw0, noBoxes]
  by_cases p8 : i.op = 8
  · obtain ⟨a0, a1⟩ := hi.a (by omega)
    obtain ⟨b0, b1⟩ := hi.b (by omega)
    have ea := fun lim => e1 lim i.a a0 (by omega)
    have eb := fun lim => e1 lim i.b b0 (by omega)
    have er := fun lim => e2 lim i.a a1
    cases hrf : rf c i.a <;> simp [s62, idAV, hs, p8, ea, eb, er, e3, hrf, W_draw0, noBoxes]
  by_cases p7 : i.op = 7
  · obtain ⟨a0, a1⟩ := hi.a (by omega)
    obtain ⟨b0, b1⟩ := hi.b (by omega)
    have ea := fun lim => e1 lim i.a a0 (by omega)
    have eb := fun lim => e1 lim i.b b0 (by omega)
    have er := fun lim => e2 lim i.b b1
    cases hrf : rf c i.b <;> simp [s62, idAV, hs, p7, ea, eb, er, e3, hrf, W_draw0, noBoxes]
  by_cases p9 : i.op = 9
  · obtain ⟨a0, a1⟩ := hi.a (by omega)
    obtain ⟨b0, b1⟩ := hi.cv (by omega)
    have ea := fun lim => e1 lim i.a a0 (by omega)
    have eb := fun lim => e1 lim i.c b0 (by omega)
    have er := fun lim => e2 lim i.c b1
    cases hrf : rf c i.c <;> simp [s62, idAV, hs, p9, ea, eb, er, e3, hrf, W_draw0, noBoxes]
  · have o1' : ¬ i.op = 11 ∧ ¬ i.op = 12 := not_or.1 o1
    simp [s62, idAV, hs, p3, p6, p8, p7, p9, o1', o2, o3, o4, o5]
end
end U12

namespace U12
open Ax Go Code19 IrV
set_option maxRecDepth 100000
set_option maxHeartbeats 8000000
mutual
theorem same_refl : ∀ a : AV, a.same a = true
  | .agg a | .tup a => by simp only [AV.same]; exact sameL_refl a
  | .lst s a | .own s a => by simp only [AV.same, Bool.and_eq_true, beq_self_eq_true, true_and]; exact sameLL_refl a
  | .pel s a i k => by simp only [AV.same, Bool.and_eq_true, beq_self_eq_true, true_and, and_true]; exact sameLL_refl a
  | .fn f a b => by simp only [AV.same, Bool.and_eq_true, beq_self_eq_true, true_and]; exact ⟨sameL_refl a, sameL_refl b⟩
  | .undef | .gone | .nilPtr | .nilSl | .nilMap | .nilFn | .nilIf | .emp => rfl
  | .bool a => by simp [AV.same]
  | .int k a => by simp [AV.same]
  | .str a => by simp [AV.same]
  | .mu i v => by simp [AV.same]
  | .ptr a b c d => by simp [AV.same]
  | .map i => by simp [AV.same]
theorem sameL_refl : ∀ l : List AV, AV.sameL l l = true
  | [] => rfl
  | a :: l => by simp only [AV.sameL, Bool.and_eq_true]; exact ⟨same_refl a, sameL_refl l⟩
theorem sameLL_refl : ∀ l : List (List AV), AV.sameLL l l = true
  | [] => rfl
  | a :: l => by simp only [AV.sameLL, Bool.and_eq_true]; exact ⟨sameL_refl a, sameLL_refl l⟩
end
theorem entSame_refl (e : Ent) : e.same e = true := by
  cases e with
  | none => rfl
  | val v => exact same_refl v
  | fp j k => simp [Ent.same]

section
variable {x : XD} {k : Nat} {c : CD} {i : ID} {rows : List (List AV)} {lim : Nat}

theorem nd_get (x : XD) (j : Nat) (h : j ≤ (dCs x.codes).length) : (ints (nodesL (dCs x.codes) (dCs x.codes).length))[j]? = some [.int .i64 (atN x j)] := by
  rw [List.getElem?_eq_getElem (by rw [ints_len, nodesL_len]; omega), ints_get, nodesL_get]; rfl

theorem mcall_ok (h : MC x k c) (hi : IOk x c i) (hr : rows.length < 900000000) (hop : i.op = 13) :
    (orcL S).call 0 lim 58 [.ptr 0 0 0 0, idAV i] [mx x k c rows] = some (.tup [], [mx x k c (rows ++ conT x k c i)]) := by
  obtain ⟨g0, g1, gq, ga, gl⟩ := hi.call hop
  have hA := hi.args
  have hs := isSl_I hA
  have hv := view_notOwn hi.no hs
  have hl := rowsL_I hA
  have hp := pure_sl hs
  have hvn := h.nv
  have hln := nodesL_len (dCs x.codes) (dCs x.codes).length
  have hgn := nd_get x i.c.toNat (by omega)
  have hgl : ∀ hh, (nodesL (dCs x.codes) (dCs x.codes).length)[i.c.toNat]'hh = atN x i.c.toNat := fun hh => nodesL_get _ _ _ hh
  have hglt : i.c < ((dCs x.codes).length : Int) + 1 := by omega
  have hb := h.at0 i.c.toNat
  have e1 := fun rows lim n h0 h1 => v_ok (rows := rows) (lim := lim) h n h0 h1
  have e2 := fun rows lim n h1 => mref_ok (rows := rows) (lim := lim) h n h1
  have e3 := fun rows lim kk a b fd hr => add_ok (c := c) (nd := ndL x) (f := (k : Int)) (many := (sumV (dCs x.codes) : Int)) (codes := x.codes) (rows := rows) lim kk a b fd hr
  have e4 := fun rows lim n h0 h1 => mres_ok (rows := rows) (lim := lim) h n h0 h1
  have hcon : conT x k c i = argC c (atN x i.c.toNat) (atN x k) (dI i.args) (dI i.args).length ++ (if rf c i.a then [conR 2 (atN x k + i.a) (sumV (dCs x.codes) + i.c) 0] else []) := by simp [conT, hop]
  rw [hcon]
  refine call_run (sf := s58) rfl rfl rfl ?_
  simp [s58, idAV, hs, hv, hl]
  refine W_loopI s58_l0.eq_1 (fun q : Nat => ⟨[(0, .val (.ptr 0 0 0 0)), (3, .fp 0 0), (7, .val i.args), (8, .val (.int .i64 (dI i.args).length)), (9, .val (.int .i64 q))], [[.int .i64 i.op, .int .i64 i.a, .int .i64 i.b, .int .i64 i.c, .int .i64 i.n, i.args]], [mx x k c (rows ++ argC c (atN x i.c.toNat) (atN x k) (dI i.args) q)]⟩)
    (fun q => q ≤ (dI i.args).length) (fun q => (dI i.args).length - q) 0 (by simp [argC]) (by simp) ?_
  intro q hq ih
  have hlen := argC_len c (atN x i.c.toNat) (atN x k) (dI i.args) q
  by_cases hlt : q < (dI i.args).length
  · have hw : IntKind.i64.wrap ((q : Int) + 1) = ((q + 1 : Nat) : Int) := by rw [wrap64] <;> omega
    obtain ⟨v0, v1⟩ := gq _ (List.getElem_mem hlt)
    have hsc := argC_succ c (atN x i.c.toNat) (atN x k) (dI i.args) q hlt
    generalize hR : rows ++ argC c (atN x i.c.toNat) (atN x k) (dI i.args) q = R at *
    have hRl : R.length < 1000000000 := by rw [← hR, List.length_append]; omega
    have er := fun lim => e2 R lim (dI i.args)[q] v1
    have ev := fun lim => e1 R lim (dI i.args)[q] v0 (by omega)
    have ea := fun lim kk a b fd => e3 R lim kk a b fd hRl
    have hw2 : IntKind.i64.wrap (atN x i.c.toNat + (q : Int)) = atN x i.c.toNat + (q : Int) := by rw [wrap64] <;> omega
    cases hrf : rf c (dI i.args)[q] with
    | false =>
      simp [hA, hv, hl, hlt, er, hrf, hw]
      have := ih (q + 1) (by omega) (by omega)
      simp only [hsc, hrf, Bool.false_eq_true, if_false, List.append_nil, hR] at this
      exact this
    | true =>
      simp [hA, hv, hl, hlt, er, hrf]
      rw [W_drawP]
      simp [evalRec, pairOk, readsSame, boxOk, SOp.newBox, cut, AV.view, hln, hgl, hglt, g0, hw2, ev, ea]
      refine ⟨_, _, ⟨rfl, rfl⟩, ?_⟩
      simp [cut, AV.view, hln, hgl, hglt, g0, hw]
      have := ih (q + 1) (by omega) (by omega)
      simp only [hsc, hrf, if_true, ← List.append_assoc, hR] at this
      refine ⟨⟨entSame_refl _, entSame_refl _, entSame_refl _⟩, ?_⟩
      rw [List.append_assoc] at this
      exact this
  · have hql : q = (dI i.args).length := by omega
    subst hql
    generalize hR : rows ++ argC c (atN x i.c.toNat) (atN x k) (dI i.args) (dI i.args).length = R at *
    have hRl : R.length < 1000000000 := by rw [← hR, List.length_append]; omega
    have hsum := h.m.all
    have hcl := h.m.codes
    have ea := fun lim kk a b fd => e3 R lim kk a b fd hRl
    have eres := fun lim => e4 R lim i.c g0 (by omega)
    rcases ga with ga | ⟨a0, a1⟩
    · have er := fun lim => e2 R lim i.a (by omega)
      have hrf : rf c i.a = false := by simp [rf, ofT, ga, refT, T0]
      simp [er, hrf, hR]
    · have er := fun lim => e2 R lim i.a a1
      have ev := fun lim => e1 R lim i.a a0 (by omega)
      cases hrf : rf c i.a <;> simp [er, hrf, ev, ea, eres, hR, ← List.append_assoc, W_draw0, noBoxes]
end
end U12

namespace U12
open Ax Go Code19 IrV
set_option maxRecDepth 100000
set_option maxHeartbeats 8000000
section
variable {x : XD} {k : Nat} {c : CD} {i : ID} {rows : List (List AV)} {lim : Nat}

theorem ins_ok (h : MC x k c) (hi : IOk x c i) (hr : rows.length < 900000000) :
    (orcL S).call 0 lim 28 [.ptr 0 0 0 0, idAV i] [mx x k c rows] = some (.tup [], [mx x k c (rows ++ conT x k c i)]) := by
  have hs := isSl_I hi.args
  have hv := view_notOwn hi.no hs
  have hp := pure_sl hs
  have hvn := h.nv
  have hkl := h.kl
  have hcl := h.m.codes
  have hgl := h.m.globals
  have e1 := fun lim n h0 h1 => v_ok (rows := rows) (lim := lim) h n h0 h1
  have e2 := fun lim n h1 => mref_ok (rows := rows) (lim := lim) h n h1
  have e3 := fun lim kk a b fd => add_ok (c := c) (nd := ndL x) (f := (k : Int)) (many := (sumV (dCs x.codes) : Int)) (codes := x.codes) (rows := rows) lim kk a b fd (by omega)
  refine call_run (sf := s28) rfl rfl rfl ?_
  by_cases p11 : i.op = 11
  · obtain ⟨a0, a1⟩ := hi.a (by omega)
    have ea := fun lim => e1 lim i.a a0 (by omega)
    simp [s28, idAV, hs, p11, ea, e3, W_draw0, noBoxes, conT]
  by_cases p12 : i.op = 12
  · obtain ⟨a0, a1⟩ := hi.a (by omega)
    have ea := fun lim => e1 lim i.a a0 (by omega)
    simp [s28, idAV, hs, p12, ea, e3, W_draw0, noBoxes, conT]
  by_cases p13 : i.op = 13
  · have ec := fun lim => mcall_ok (lim := lim) (rows := rows) h hi hr p13
    simp only [idAV] at ec
    simp [s28, idAV, hs, hv, p13] at ec ⊢
    simp [ec]
  by_cases p18 : i.op = 18
  · have hcon : conT x k c i = if rf c i.a then [conR 2 (sumV (dCs x.codes) + k) (atN x k + i.a) 0] else [] := by simp [conT, p18]
    rw [hcon]
    have em := fun lim => mres_ok (rows := rows) (lim := lim) h k (by omega) (by omega)
    rcases hi.ret p18 with ga | ⟨a0, a1⟩
    · have er := fun lim => e2 lim i.a (by omega)
      have hrf : rf c i.a = false := by simp [rf, ofT, ga, refT, T0]
      simp [s28, idAV, hs, p18, er, hrf]
    · have er := fun lim => e2 lim i.a a1
      have ev := fun lim => e1 lim i.a a0 (by omega)
      cases hrf : rf c i.a <;> simp [s28, idAV, hs, p18, er, hrf, cut, em, ev, e3, W_draw0, noBoxes]
  by_cases p19 : i.op = 19
  · have hcon : conT x k c i = if rf c i.a then [conR 2 (atN x k + i.a) (sumV (dCs x.codes) + (dCs x.codes).length + i.n) 0] else [] := by simp [conT, p19]
    rw [hcon]
    obtain ⟨n0, n1⟩ := hi.glob (by omega)
    obtain ⟨a0, a1⟩ := hi.a (by omega)
    have em := fun lim => mglob_ok (rows := rows) (lim := lim) h i.n n0 (by omega)
    have er := fun lim => e2 lim i.a a1
    have ev := fun lim => e1 lim i.a a0 (by omega)
    cases hrf : rf c i.a <;> simp [s28, idAV, hs, p19, er, hrf, em, ev, e3, W_draw0, noBoxes]
  by_cases p20 : i.op = 20
  · have hcon : conT x k c i = if rf c i.a then [conR 2 (sumV (dCs x.codes) + (dCs x.codes).length + i.n) (atN x k + i.a) 0] else [] := by simp [conT, p20]
    rw [hcon]
    obtain ⟨n0, n1⟩ := hi.glob (by omega)
    obtain ⟨a0, a1⟩ := hi.a (by omega)
    have em := fun lim => mglob_ok (rows := rows) (lim := lim) h i.n n0 (by omega)
    have er := fun lim => e2 lim i.a a1
    have ev := fun lim => e1 lim i.a a0 (by omega)
    cases hrf : rf c i.a <;> simp [s28, idAV, hs, p20, er, hrf, em, ev, e3, W_draw0, noBoxes]
  · have em := fun lim => moves_ok (lim := lim) (rows := rows) h hi hr ⟨by omega, p13, p18, p19, p20⟩
    simp only [idAV] at em
    simp [s28, idAV, hs, hv, p11, p12, p13, p18, p19, p20, em]
end
end U12

namespace U12
open Ax Go Code19 IrV
set_option maxRecDepth 100000
set_option maxHeartbeats 8000000
section
variable {x : XD} {k : Nat} {c : CD} {i : ID}

/-- runrigref19.ref -/
theorem r19_ok (wl lim : Nat) (h : MC x k c) (n : Int) (st : Store) (h0 : 0 ≤ n) (h1 : n < (dTs c.vars).length) :
    (orcL S).call wl lim 88 [.agg c.cells, .int .i64 n] st = some (.bool (rf c n), st) := by
  have hT := h.T
  have hTs := isSl_T hT
  have hTv := isTs_vw hT
  have hTl := rowsL_T hT
  have hNs := isSl_N h.N
  have hNv := isNs_vw h.N
  have hn : n.toNat < (dTs c.vars).length := by omega
  have hrf : rf c n = refT (dTs c.vars)[n.toNat] := by simp [rf, ofT, h0, hn]
  have hr2 := fun wl lim st => rref_ok wl lim (dTs c.vars)[n.toNat].b (dTs c.vars)[n.toNat].r (dTs c.vars)[n.toNat].d st
  refine call_pure (sf := s88) rfl rfl (by simp [CD.cells, pure_sl hTs, pure_sl hNs, AV.isPure, AV.allPure]) rfl (by simp) ?_
  simp [s88, CD.cells, h0, h1, hTv, hTl, hT, hn, hr2, hrf, hNs]

theorem app0 (k a b f : Int) : appV 4 32 .nilSl [conR k a b f] = some (mkL 4 [conR k a b f]) := by
  have := appV_mk (sz := 4) (bytes := 32) (r := []) (new := [conR k a b f]) (by simp [fits]) (by simp [room])
  simpa [mkL_nil] using this

theorem of19_ok (wl lim : Nat) (h : MC x k c) (hi : IOk x c i) (st : Store) :
    (orcL S).call wl lim 63 [xAV x, .int .i64 k, .int .i64 (atN x k), idAV i] st = some (mkL 4 (conT x k c i), st) := by
  have hx := h.xo.sl
  have hC := h.xo.codes
  have hCl := rowsL_C hC
  have hkl := h.kl
  have hcd := h.cd
  have hTs := isSl_T h.T
  have hTv := isTs_vw h.T
  have hNs := isSl_N h.N
  have hNv := isNs_vw h.N
  have hA := hi.args
  have hs := isSl_I hA
  have hv := view_notOwn hi.no hs
  have hl := rowsL_I hA
  have hvn := h.nv
  have hcl := h.m.codes
  have hgl := h.m.globals
  have hb := h.at0 k
  have hall := h.m.all
  have e1 := fun n h0 h1 => r19_ok 0 0 h n [] h0 h1
  simp only [CD.cells] at e1
  have ew := fun (n : Int) (h0 : 0 ≤ n) (h1 : n < 300) => (show IntKind.i64.wrap (atN x k + n) = atN x k + n by rw [wrap64] <;> omega)
  have e3 := fun (f : Nat) hf => resultOf_ok 0 0 f [] h.xo h.m hf
  have e4 := fun (f : Nat) hf => globalOf_ok 0 0 f [] h.xo h.m hf
  simp only [xAV] at e3 e4
  refine call_pure (sf := s63) rfl rfl (by simp [idAV, h.xo.pure, pure_sl hs, AV.isPure, AV.allPure]) rfl (by simp) ?_
  unfold conT
  by_cases p3 : i.op = 3
  · obtain ⟨a0, a1⟩ := hi.a (by omega)
    obtain ⟨b0, b1⟩ := hi.b (by omega)
    have er := e1 i.a a0 a1
    have wa := ew i.a a0 (by omega)
    have wb := ew i.b b0 (by omega)
    cases hrf : rf c i.a <;> simp [s63, xAV, idAV, hx, hC, hCl, hkl, hcd, CD.cells, hTs, hTv, hNs, hNv, hs, p3, er, hrf, wa, wb, app0, mkL_nil]
  by_cases p6 : i.op = 6
  · obtain ⟨a0, a1⟩ := hi.a (by omega)
    obtain ⟨b0, b1⟩ := hi.b (by omega)
    have er := e1 i.a a0 a1
    have wa := ew i.a a0 (by omega)
    have wb := ew i.b b0 (by omega)
    cases hrf : rf c i.a <;> simp [s63, xAV, idAV, hx, hC, hCl, hkl, hcd, CD.cells, hTs, hTv, hNs, hNv, hs, p6, er, hrf, wa, wb, app0, mkL_nil]
  by_cases p8 : i.op = 8
  · obtain ⟨a0, a1⟩ := hi.a (by omega)
    obtain ⟨b0, b1⟩ := hi.b (by omega)
    have er := e1 i.a a0 a1
    have wa := ew i.a a0 (by omega)
    have wb := ew i.b b0 (by omega)
    cases hrf : rf c i.a <;> simp [s63, xAV, idAV, hx, hC, hCl, hkl, hcd, CD.cells, hTs, hTv, hNs, hNv, hs, p8, er, hrf, wa, wb, app0, mkL_nil]
  by_cases p7 : i.op = 7
  · obtain ⟨a0, a1⟩ := hi.a (by omega)
    obtain ⟨b0, b1⟩ := hi.b (by omega)
    have er := e1 i.b b0 b1
    have wa := ew i.a a0 (by omega)
    have wb := ew i.b b0 (by omega)
    cases hrf : rf c i.b <;> simp [s63, xAV, idAV, hx, hC, hCl, hkl, hcd, CD.cells, hTs, hTv, hNs, hNv, hs, p7, er, hrf, wa, wb, app0, mkL_nil]
  by_cases p9 : i.op = 9
  · obtain ⟨a0, a1⟩ := hi.a (by omega)
    obtain ⟨b0, b1⟩ := hi.cv (by omega)
    have er := e1 i.c b0 b1
    have wa := ew i.a a0 (by omega)
    have wb := ew i.c b0 (by omega)
    cases hrf : rf c i.c <;> simp [s63, xAV, idAV, hx, hC, hCl, hkl, hcd, CD.cells, hTs, hTv, hNs, hNv, hs, p9, er, hrf, wa, wb, app0, mkL_nil]
  by_cases p11 : i.op = 11
  · obtain ⟨a0, a1⟩ := hi.a (by omega)
    have wa := ew i.a a0 (by omega)
    simp [s63, xAV, idAV, hx, hC, hCl, hkl, hcd, CD.cells, hTs, hTv, hNs, hNv, hs, p11, wa, app0]
  by_cases p12 : i.op = 12
  · obtain ⟨a0, a1⟩ := hi.a (by omega)
    have wa := ew i.a a0 (by omega)
    simp [s63, xAV, idAV, hx, hC, hCl, hkl, hcd, CD.cells, hTs, hTv, hNs, hNv, hs, p12, wa, app0]
  by_cases p13 : i.op = 13
  · obtain ⟨g0, g1, gq, ga, gl⟩ := hi.call p13
    have hb2 := h.at0 i.c.toNat
    have ev := vars_ok 0 0 i.c.toNat [] h.xo h.m (by omega)
    rw [Int.toNat_of_nonneg g0] at ev
    have em := e3 i.c.toNat (by omega)
    rw [Int.toNat_of_nonneg g0] at em
    simp only [xAV] at ev
    simp [s63, xAV, idAV, hx, hC, hCl, hkl, hcd, CD.cells, hTs, hTv, hNs, hNv, hs, p13, ev]
    refine W_loopI s63_l0.eq_1 (fun q : Nat => ⟨[(2, .val (.int .i64 (atN x k))), (4, .fp 0 0), (7, .fp 1 0), (9, .fp 2 0), (10, .val (mkL 4 (argC c (atN x i.c.toNat) (atN x k) (dI i.args) q))), (11, .val (.int .i64 (atN x i.c.toNat))), (12, .val (.int .i64 q))],
        [[x.recs, x.globals, x.codes, x.sites, .int .i64 x.main], [.int .i64 13, .int .i64 i.a, .int .i64 i.b, .int .i64 i.c, .int .i64 i.n, i.args], [.int .i64 c.params, c.vars, .bool c.has, .int .i64 c.res.b, .int .i64 c.res.r, .int .i64 c.res.d, c.ins]], []⟩)
      (fun q => q ≤ (dI i.args).length) (fun q => (dI i.args).length - q) 0 (by simp [argC, mkL_nil, atN]) (by simp) ?_
    intro q hq ih
    have hlen := argC_len c (atN x i.c.toNat) (atN x k) (dI i.args) q
    by_cases hlt : q < (dI i.args).length
    · have hw : IntKind.i64.wrap ((q : Int) + 1) = ((q + 1 : Nat) : Int) := by rw [wrap64] <;> omega
      obtain ⟨v0, v1⟩ := gq _ (List.getElem_mem hlt)
      have hsc := argC_succ c (atN x i.c.toNat) (atN x k) (dI i.args) q hlt
      have er := e1 (dI i.args)[q] v0 v1
      have wa := ew (dI i.args)[q] v0 (by omega)
      have hw2 : IntKind.i64.wrap (atN x i.c.toNat + (q : Int)) = atN x i.c.toNat + (q : Int) := by rw [wrap64] <;> omega
      have hap := appV_mk (sz := 4) (bytes := 32) (r := argC c (atN x i.c.toNat) (atN x k) (dI i.args) q) (new := [conR 2 (atN x i.c.toNat + q) (atN x k + (dI i.args)[q]) 0]) (by simp [fits]) (by simp [room]; omega)
      cases hrf : rf c (dI i.args)[q] with
      | false =>
        simp [hA, hv, hl, hlt, hTv, hNv, er, hrf, hw, W_draw0, noBoxes]
        have := ih (q + 1) (by omega) (by omega)
        simp only [hsc, hrf, Bool.false_eq_true, if_false, List.append_nil] at this
        exact this
      | true =>
        simp [hA, hv, hl, hlt, hTv, hNv, er, hrf, hw, hw2, wa, hap, W_draw0, noBoxes]
        have := ih (q + 1) (by omega) (by omega)
        simp only [hsc, hrf, if_true] at this
        exact this
    · have hql : q = (dI i.args).length := by omega
      subst hql
      have hap := fun a b => appV_mk (sz := 4) (bytes := 32) (r := argC c (atN x i.c.toNat) (atN x k) (dI i.args) (dI i.args).length) (new := [conR 2 a b 0]) (by simp [fits]) (by simp [room]; omega)
      rcases ga with ga | ⟨a0, a1⟩
      · have hrf : rf c (-1) = false := by simp [rf, ofT, refT, T0]
        simp [hA, hv, hl, ga, hrf]
      · have er := e1 i.a a0 a1
        have wa := ew i.a a0 (by omega)
        cases hrf : rf c i.a <;> simp [hx, hA, hv, hl, a0, hTv, hNv, er, hrf, wa, em, hap, W_draw0, noBoxes]
  by_cases p18 : i.op = 18
  · have em := e3 k (by omega)
    rcases hi.ret p18 with ga | ⟨a0, a1⟩
    · have hrf : rf c i.a = false := by simp [rf, ofT, ga, refT, T0]
      have hrf' : rf c (-1) = false := by rw [← ga]; exact hrf
      simp [s63, xAV, idAV, hx, hC, hCl, hkl, hcd, CD.cells, hTs, hTv, hNs, hNv, hs, p18, ga, hrf', mkL_nil]
    · have er := e1 i.a a0 a1
      have wa := ew i.a a0 (by omega)
      cases hrf : rf c i.a <;> simp [s63, xAV, idAV, hx, hC, hCl, hkl, hcd, CD.cells, hTs, hTv, hNs, hNv, hs, p18, a0, er, hrf, wa, em, app0, mkL_nil, W_draw0, noBoxes]
  by_cases p19 : i.op = 19
  · obtain ⟨n0, n1⟩ := hi.glob (by omega)
    obtain ⟨a0, a1⟩ := hi.a (by omega)
    have em := e4 i.n.toNat (by omega)
    rw [Int.toNat_of_nonneg n0] at em
    have er := e1 i.a a0 a1
    have wa := ew i.a a0 (by omega)
    cases hrf : rf c i.a <;> simp [s63, xAV, idAV, hx, hC, hCl, hkl, hcd, CD.cells, hTs, hTv, hNs, hNv, hs, p19, er, hrf, wa, em, app0, mkL_nil, W_draw0, noBoxes]
  by_cases p20 : i.op = 20
  · obtain ⟨n0, n1⟩ := hi.glob (by omega)
    obtain ⟨a0, a1⟩ := hi.a (by omega)
    have em := e4 i.n.toNat (by omega)
    rw [Int.toNat_of_nonneg n0] at em
    have er := e1 i.a a0 a1
    have wa := ew i.a a0 (by omega)
    cases hrf : rf c i.a <;> simp [s63, xAV, idAV, hx, hC, hCl, hkl, hcd, CD.cells, hTs, hTv, hNs, hNv, hs, p20, er, hrf, wa, em, app0, mkL_nil, W_draw0, noBoxes]
  · simp [s63, xAV, idAV, hx, hC, hCl, hkl, hcd, CD.cells, hTs, hTv, hNs, hNv, hs, p3, p6, p8, p7, p9, p11, p12, p13, p18, p19, p20, mkL_nil]
end
end U12

namespace U12
open Ax Go Code19 IrV
set_option maxRecDepth 100000
set_option maxHeartbeats 8000000

def conI (x : XD) (k : Nat) (c : CD) (j : Nat) : List (List AV) := ((dNs c.ins).take j).flatMap (conT x k c)
def conN (x : XD) : Nat → List (List AV)
  | 0 => []
  | k + 1 => conN x k ++ match (dCs x.codes)[k]? with
    | some c => conI x k c (dNs c.ins).length
    | none => []

/-- All instructions are as said. -/
def XOk (x : XD) : Prop := ∀ (k : Nat) (h : k < (dCs x.codes).length), ∀ i ∈ dNs (dCs x.codes)[k].ins, IOk x (dCs x.codes)[k] i

theorem conI_succ {x : XD} {k : Nat} {c : CD} {j : Nat} (h : j < (dNs c.ins).length) : conI x k c (j + 1) = conI x k c j ++ conT x k c (dNs c.ins)[j] := by
  simp only [conI]
  rw [List.take_succ_eq_append_getElem h, List.flatMap_append]
  simp only [List.flatMap_cons, List.flatMap_nil, List.append_nil]
theorem conN_succ {x : XD} {k : Nat} (h : k < (dCs x.codes).length) : conN x (k + 1) = conN x k ++ conI x k (dCs x.codes)[k] (dNs (dCs x.codes)[k].ins).length := by
  simp [conN, h]
theorem conI_len {x : XD} {k : Nat} {c : CD} (hi : ∀ i ∈ dNs c.ins, IOk x c i) : ∀ j : Nat, j ≤ (dNs c.ins).length → (conI x k c j).length ≤ 301 * j
  | 0, _ => by simp [conI]
  | j + 1, h => by
    rw [conI_succ (by omega), List.length_append]
    have h1 := conI_len (k := k) hi j (by omega)
    have h2 := conT_len (k := k) (hi _ (List.getElem_mem (show j < (dNs c.ins).length by omega)))
    omega
theorem conN_len {x : XD} (hm : Sm x) (hi : XOk x) : ∀ k : Nat, k ≤ (dCs x.codes).length → (conN x k).length ≤ 90300 * k
  | 0, _ => by simp [conN]
  | k + 1, h => by
    rw [conN_succ (by omega), List.length_append]
    have h1 := conN_len hm hi k (by omega)
    have h2 := conI_len (k := k) (hi k (by omega)) _ (Nat.le_refl _)
    have h3 := hm.ins _ (List.getElem_mem (show k < (dCs x.codes).length by omega))
    have : 301 * (dNs (dCs x.codes)[k].ins).length ≤ 301 * 300 := Nat.mul_le_mul_left _ h3
    omega
theorem fits_app (a b : List (List AV)) : fits 4 (a ++ b) = (fits 4 a && fits 4 b) := by simp [fits]
theorem fits_argC (c : CD) (to a : Int) (l : List Int) : ∀ j : Nat, fits 4 (argC c to a l j) = true
  | 0 => rfl
  | j + 1 => by
    have ih := fits_argC c to a l j
    simp only [argC, List.range_succ, List.flatMap_append, fits_app, List.flatMap_cons, List.flatMap_nil, List.append_nil, Bool.and_eq_true] at *
    refine ⟨ih, ?_⟩
    split <;> rfl
theorem fits_ite (p : Prop) [Decidable p] (a b : List (List AV)) : fits 4 (if p then a else b) = if p then fits 4 a else fits 4 b := by
  by_cases h : p <;> simp [h]
theorem fits_conT (x : XD) (k : Nat) (c : CD) (i : ID) : fits 4 (conT x k c i) = true := by
  have h0 : fits 4 [] = true := rfl
  have h1 : ∀ a b d e, fits 4 [conR a b d e] = true := fun _ _ _ _ => rfl
  simp only [conT, fits_ite, fits_app, fits_argC, h0, h1, ite_self, Bool.and_self]
theorem fits_conI (x : XD) (k : Nat) (c : CD) : ∀ j : Nat, j ≤ (dNs c.ins).length → fits 4 (conI x k c j) = true
  | 0, _ => rfl
  | j + 1, h => by rw [conI_succ (by omega), fits_app, fits_conI x k c j (by omega), fits_conT]; rfl
theorem fits_conN (x : XD) : ∀ k : Nat, k ≤ (dCs x.codes).length → fits 4 (conN x k) = true
  | 0, _ => rfl
  | k + 1, h => by rw [conN_succ (by omega), fits_app, fits_conN x k (by omega), fits_conI _ _ _ _ (Nat.le_refl _)]; rfl

theorem makeOf_ok (wl lim : Nat) {x : XD} (st : Store) (hx : x.ok) (hm : Sm x) (hi : XOk x) :
    (orcL S).call wl lim 29 [xAV x] st = some (mkL 4 (conN x (dCs x.codes).length), st) := by
  have hs := hx.sl
  have hC := hx.codes
  have hl := rowsL_C hx.codes
  have hcl := hm.codes
  refine call_pure (sf := s29) rfl rfl (by simp [hx.pure]) rfl (by simp) ?_
  simp [s29, xAV, hs]
  refine W_loopI s29_l1.eq_1 (fun q : Nat × List AV => ⟨[(1, .fp 0 0), (3, .val (mkL 4 (conN x q.1))), (4, .val (.int .i64 q.1))], [[x.recs, x.globals, x.codes, x.sites, .int .i64 x.main], q.2], []⟩)
    (fun q => q.1 ≤ (dCs x.codes).length) (fun q => (dCs x.codes).length - q.1) (0, []) (by simp [conN, mkL_nil]) (by simp) ?_
  rintro ⟨k, bb⟩ hk ih
  simp only at hk ih
  by_cases hlt : k < (dCs x.codes).length
  · have hw : IntKind.i64.wrap ((k : Int) + 1) = ((k + 1 : Nat) : Int) := by rw [wrap64] <;> omega
    have hF := isCs_get hC _ (List.getElem_mem hlt)
    have hTs := isSl_T hF.1
    have hTv := isTs_vw hF.1
    have hN := hF.2
    have hNs := isSl_N hN
    have hNv := isNs_vw hN
    have hNl := rowsL_N hN
    have hik := hi k hlt
    have h3 := hm.ins _ (List.getElem_mem hlt)
    have hmc : MC x k (dCs x.codes)[k] := ⟨hx, hm, hlt, rfl⟩
    have ev := vars_ok 0 0 k [] hx hm (by omega)
    have eo := fun i hi => of19_ok 0 0 (i := i) hmc hi []
    have hsucc := conN_succ hlt
    have hlen := conN_len hm hi k (by omega)
    have hlenI := conI_len (k := k) hik
    simp only [xAV, idAV] at ev eo
    generalize hcd : (dCs x.codes)[k] = c at *
    simp [hs, hC, hl, hlt, hcd, CD.cells, hTs, hTv, hNs, hNv, ev]
    refine W_loopI s29_l0.eq_1 (fun j : Nat => ⟨[(1, .fp 0 0), (3, .val (mkL 4 (conN x k ++ conI x k c j))), (4, .val (.int .i64 k)), (5, .fp 1 0), (6, .val (.int .i64 (atN x k))), (7, .val (.int .i64 j))],
        [[x.recs, x.globals, x.codes, x.sites, .int .i64 x.main], [.int .i64 c.params, c.vars, .bool c.has, .int .i64 c.res.b, .int .i64 c.res.r, .int .i64 c.res.d, c.ins]], []⟩)
      (fun j => j ≤ (dNs c.ins).length) (fun j => (dNs c.ins).length - j) 0 ?_ (by simp) ?_
    · simp only [conI, atN, List.take_zero, List.flatMap_nil, List.append_nil]; rfl
    intro j hj ihj
    have l2 := hlenI j hj
    by_cases hjl : j < (dNs c.ins).length
    · have hwj : IntKind.i64.wrap ((j : Int) + 1) = ((j + 1 : Nat) : Int) := by rw [wrap64] <;> omega
      have hio := hik _ (List.getElem_mem hjl)
      have e := eo _ hio
      have l3 := conT_len (k := k) hio
      have hsc := conI_succ (x := x) (k := k) hjl
      have hap := appV_mk (sz := 4) (bytes := 32) (r := conN x k ++ conI x k c j) (new := conT x k c (dNs c.ins)[j]) (fits_conT _ _ _ _) (by simp only [List.length_append, room]; omega)
      have hAs := isSl_I hio.args
      have hAv := view_notOwn hio.no hAs
      simp [hs, hN, hNl, hjl, ID.cells, hAv, hwj, e, hap, W_draw0, noBoxes]
      have := ihj (j + 1) (by omega) (by omega)
      simp only [hsc] at this
      exact this
    · have hjk : j = (dNs c.ins).length := by omega
      subst hjk
      simp [hNs, hNl, hw]
      have := ih (k + 1, [.int .i64 c.params, c.vars, .bool c.has, .int .i64 c.res.b, .int .i64 c.res.r, .int .i64 c.res.d, c.ins]) (by simp; omega) (by simp; omega)
      simp only [hsucc] at this
      exact this
  · have hkl : k = (dCs x.codes).length := by omega
    subst hkl
    simp [hs, hl]

/-- cons.Make behind its question. -/
theorem make_body (wl lim : Nat) {x : XD} (st : Store) (hx : x.ok) (hm : Sm x) (hi : XOk x) (hr : (orcL S).call 0 0 25 [xAV x] [] = some (.bool true, [])) :
    (orcL S).call wl lim 10 [xAV x] st = some ((mkL 4 (conN x (dCs x.codes).length)).view, st) := by
  have hs := hx.sl
  have hC := hx.codes
  have hl := rowsL_C hx.codes
  have hcl := hm.codes
  have en := nodes_ok 0 0 [] hx hm
  have ev := variables_ok 0 0 [] hx hm
  simp only [xAV] at hr en ev
  refine call_pure (sf := s10) rfl rfl (by simp [hx.pure]) rfl (by simp) ?_
  simp [s10, xAV, hs, hl, hr, en, ev, W_draw0, noBoxes]
  refine W_loopI s10_l1.eq_1 (fun q : Nat × CD × Int × List AV × List AV => ⟨[(3, .val (.ptr 0 0 0 0)), (20, .val x.codes), (21, .val (.int .i64 (dCs x.codes).length)), (22, .val (.int .i64 q.1))],
      [[x.recs, x.globals, x.codes, x.sites, .int .i64 x.main], q.2.2.2.1, q.2.2.2.2], [mo q.2.1 (ndL x) q.2.2.1 (sumV (dCs x.codes)) x.codes (conN x q.1)]⟩)
    (fun q => q.1 ≤ (dCs x.codes).length ∧ q.2.1.vars.isPure = true) (fun q => (dCs x.codes).length - q.1) (0, ⟨0, .nilSl, false, ⟨0, 0, 0⟩, .nilSl⟩, 0, [], []) ?_ (by simp) ?_
  · simp only [conN]; rfl
  rintro ⟨k, c0, f0, b1, b2⟩ ⟨hk, _⟩ ih
  simp only at hk ih
  by_cases hlt : k < (dCs x.codes).length
  · have hw : IntKind.i64.wrap ((k : Int) + 1) = ((k + 1 : Nat) : Int) := by rw [wrap64] <;> omega
    have hF := isCs_get hC _ (List.getElem_mem hlt)
    have hTs := isSl_T hF.1
    have hTv := isTs_vw hF.1
    have hN := hF.2
    have hNs := isSl_N hN
    have hNv := isNs_vw hN
    have hNl := rowsL_N hN
    have hik := hi k hlt
    have h3 := hm.ins _ (List.getElem_mem hlt)
    have hmc : MC x k (dCs x.codes)[k] := ⟨hx, hm, hlt, rfl⟩
    have eo := fun lim rows i hi hr => ins_ok (lim := lim) (rows := rows) (i := i) hmc hi hr
    have hsucc := conN_succ hlt
    have hlen := conN_len hm hi k (by omega)
    have hlenI := conI_len (k := k) hik
    have hpT := pure_sl hTs
    have hpN := pure_sl hNs
    simp only [idAV] at eo
    generalize hcd : (dCs x.codes)[k] = c at *
    simp [hs, hC, hl, hlt, hcd, CD.cells, hTs, hTv, hNs, hNv, hNl, W_draw0, noBoxes, paste, mayWrite, AV.allPure]
    refine W_loopI s10_l0.eq_1 (fun q : Nat × List AV => ⟨[(3, .val (.ptr 0 0 0 0)), (20, .val x.codes), (21, .val (.int .i64 (dCs x.codes).length)), (22, .val (.int .i64 k)), (36, .val c.ins), (37, .val (.int .i64 (dNs c.ins).length)), (38, .val (.int .i64 q.1))],
        [[x.recs, x.globals, x.codes, x.sites, .int .i64 x.main], [.int .i64 c.params, c.vars, .bool c.has, .int .i64 c.res.b, .int .i64 c.res.r, .int .i64 c.res.d, c.ins], q.2], [mx x k c (conN x k ++ conI x k c q.1)]⟩)
      (fun q => q.1 ≤ (dNs c.ins).length) (fun q => (dNs c.ins).length - q.1) (0, b2) ?_ (by simp) ?_
    · simp only [conI, List.take_zero, List.flatMap_nil, List.append_nil]; rfl
    rintro ⟨j, b3⟩ hj ihj
    simp only at hj ihj
    have l2 := hlenI j hj
    by_cases hjl : j < (dNs c.ins).length
    · have hwj : IntKind.i64.wrap ((j : Int) + 1) = ((j + 1 : Nat) : Int) := by rw [wrap64] <;> omega
      have hio := hik _ (List.getElem_mem hjl)
      have hsc := conI_succ (x := x) (k := k) hjl
      have hAs := isSl_I hio.args
      have hAv := view_notOwn hio.no hAs
      have e := fun lim => eo lim (conN x k ++ conI x k c j) _ hio (by rw [List.length_append]; omega)
      simp [hN, hNl, hjl, ID.cells, hAs, hAv, hwj, e]
      have := ihj (j + 1, (dNs c.ins)[j].cells) (by simp; omega) (by simp; omega)
      simp only [hsc, ID.cells] at this
      exact this
    · have hjk : j = (dNs c.ins).length := by omega
      subst hjk
      simp [hw]
      have := ih (k + 1, c, (k : Int), [.int .i64 c.params, c.vars, .bool c.has, .int .i64 c.res.b, .int .i64 c.res.r, .int .i64 c.res.d, c.ins], b3) (by simp [hpT]; omega) (by simp; omega)
      simp only [hsucc] at this
      exact this
  · have hkl : k = (dCs x.codes).length := by omega
    subst hkl
    simp [cut]
end U12
