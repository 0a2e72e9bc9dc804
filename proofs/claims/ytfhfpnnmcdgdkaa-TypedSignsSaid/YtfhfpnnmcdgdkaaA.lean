/- Part of a proof. -/
import Derived.Test.YtfhfpnnmcdgdkaaD
import Derived.Test.YtfhfpnnmcdgdkaaM
import Derived.Test.YtfhfpnnmcdgdkaaK
import Derived.Test.YtfhfpnnmcdgdkaaP

namespace K9
open Ax Go Code8z V7 Par Chk
set_option maxRecDepth 100000
set_option maxHeartbeats 8000000

/-! ### What is the same as itself -/
def SE (e : E) : Prop := ∀ wl lim st, (orcL S).call wl lim 67 [.agg e.row, .agg e.row] st = some (.bool true, st)
theorem sameEs_of (l : List E) (hn : l.length < 1000000000) (h : ∀ x ∈ l, SE x) (wl lim : Nat) (st : Store) : (orcL S).call wl lim 55 [esV l, esV l] st = some (.bool true, st) := by
  have hz : isSz 11 (esV l) = true := isSz_E
  have hsl : isSl (esV l) = true := isSl_esV
  have hvw : (esV l).view = esV l := view_esV
  have hrE : rowsL (esV l) = E.rows l := rowsL_lstV
  refine call_pure (sf := s55) rfl rfl (by simp [AV.allPure]) rfl (by simp) ?_
  generalize esV l = v at *
  simp [s55, hsl, hvw, hrE]
  refine W_loopI s55_l0.eq_1 (fun k : Nat => ⟨[(0, .val v), (1, .val v), (5, .val (.int .i64 k))], [], []⟩)
    (fun k => k ≤ l.length) (fun k => l.length - k) 0 (by simp) (by simp) ?_
  intro k hk ih
  by_cases hlt : k < l.length
  · have hw : IntKind.i64.wrap ((k : Int) + 1) = ((k + 1 : Nat) : Int) := by rw [wrap64] <;> omega
    have e := h l[k] (List.getElem_mem hlt)
    have gE := E_get hlt
    have gE' := fun h2 => E_get' hlt h2
    unfold SE at e
    rw [E.row_eq] at e gE
    simp only [E.row_eq] at gE'
    have ih' := ih (k + 1) (by omega) (by omega)
    generalize l[k] = x at *
    simp [hz, hsl, hrE, hvw, hlt, hw, gE', e, W_draw0, noBoxes, AV.view]
    exact ih'
  · simp [hsl, hrE, hvw, hlt]
theorem sameE_ok (e : E) : E.sz e < 1000000000 → SE e := by
  induction e using E.ind with
  | _ e ih =>
    intro hsz wl lim st
    have hks := E.sz_kids e
    have hkl := E.szs_len e.kids
    have ek := fun wl lim st => sameEs_of e.kids (by omega) (fun x hx => ih x hx (by have := E.szs_mem hx; omega)) wl lim st
    have hsl : isSl (esV e.kids) = true := isSl_esV
    have hvw : (esV e.kids).view = esV e.kids := view_esV
    rw [E.row_eq]
    refine call_pure (sf := s67) rfl rfl (by simp [AV.allPure, AV.isPure]) rfl (by simp) ?_
    generalize esV e.kids = v at *
    simp [s67, hsl, hvw, ek, AV.view]
theorem sameEs_ok (l : List E) (hn : E.szs l < 1000000000) (wl lim : Nat) (st : Store) : (orcL S).call wl lim 55 [esV l, esV l] st = some (.bool true, st) :=
  sameEs_of l (by have := E.szs_len l; omega) (fun x hx => sameE_ok x (by have := E.szs_mem hx; omega)) wl lim st

def PE (l : List E) : Prop := ∀ wl lim st, (orcL S).call wl lim 41 [esV l, esV l] st = some (.bool true, st)
theorem places_of (l : List E) (hn : l.length < 1000000000) (h : ∀ x ∈ l, PE x.kids) : PE l := by
  intro wl lim st
  have hz : isSz 11 (esV l) = true := isSz_E
  have hsl : isSl (esV l) = true := isSl_esV
  have hvw : (esV l).view = esV l := view_esV
  have hrE : rowsL (esV l) = E.rows l := rowsL_lstV
  refine call_pure (sf := s41) rfl rfl (by simp [AV.allPure]) rfl (by simp) ?_
  generalize esV l = v at *
  simp [s41]
  refine W_loopI s41_l0.eq_1 (fun k : Nat => ⟨[(0, .val v), (1, .val v), (5, .val (.int .i64 k))], [], []⟩)
    (fun k => k ≤ l.length) (fun k => l.length - k) 0 (by simp) (by simp) ?_
  intro k hk ih
  by_cases hlt : k < l.length
  · have hw : IntKind.i64.wrap ((k : Int) + 1) = ((k + 1 : Nat) : Int) := by rw [wrap64] <;> omega
    have e := h l[k] (List.getElem_mem hlt)
    have gE := E_get hlt
    have gE' := fun h2 => E_get' hlt h2
    unfold PE at e
    rw [E.row_eq] at gE
    simp only [E.row_eq] at gE'
    have ih' := ih (k + 1) (by omega) (by omega)
    have kz : (esV l[k].kids).view = esV l[k].kids := view_esV
    generalize l[k] = x at *
    generalize esV x.kids = kv at *
    simp [hz, hsl, hrE, hvw, hlt, hw, gE', e, kz, W_draw0, noBoxes, AV.view]
    exact ih'
  · simp [hsl, hrE, hvw, hlt]
theorem places_kids (e : E) : E.sz e < 1000000000 → PE e.kids := by
  induction e using E.ind with
  | _ e ih =>
    intro hsz
    have hks := E.sz_kids e
    have hkl := E.szs_len e.kids
    exact places_of e.kids (by omega) fun x hx => ih x hx (by have := E.szs_mem hx; omega)
theorem places_ok (l : List E) (hn : E.szs l < 1000000000) : PE l :=
  places_of l (by have := E.szs_len l; omega) fun x hx => places_kids x (by have := E.szs_mem hx; omega)

def SS (s : Sm) : Prop := ∀ wl lim st, (orcL S).call wl lim 40 [.agg s.row, .agg s.row] st = some (.bool true, st)
theorem sameSs_of (l : List Sm) (hn : l.length < 1000000000) (h : ∀ x ∈ l, SS x) (wl lim : Nat) (st : Store) : (orcL S).call wl lim 25 [ssV l, ssV l] st = some (.bool true, st) := by
  have hz : isSz 9 (ssV l) = true := isSz_Sm
  have hsl : isSl (ssV l) = true := isSl_ssV
  have hvw : (ssV l).view = ssV l := view_ssV
  have hrE : rowsL (ssV l) = Sm.rows l := rowsL_lstV
  refine call_pure (sf := s25) rfl rfl (by simp [AV.allPure]) rfl (by simp) ?_
  generalize ssV l = v at *
  simp [s25, hsl, hvw, hrE]
  refine W_loopI s25_l0.eq_1 (fun k : Nat => ⟨[(0, .val v), (1, .val v), (5, .val (.int .i64 k))], [], []⟩)
    (fun k => k ≤ l.length) (fun k => l.length - k) 0 (by simp) (by simp) ?_
  intro k hk ih
  by_cases hlt : k < l.length
  · have hw : IntKind.i64.wrap ((k : Int) + 1) = ((k + 1 : Nat) : Int) := by rw [wrap64] <;> omega
    have e := h l[k] (List.getElem_mem hlt)
    have gE := Sm_get hlt
    have gE' := fun h2 => Sm_get' hlt h2
    unfold SS at e
    rw [Sm.row_eq] at e gE
    simp only [Sm.row_eq] at gE'
    have ih' := ih (k + 1) (by omega) (by omega)
    generalize l[k] = x at *
    simp [hz, hsl, hrE, hvw, hlt, hw, gE', e, W_draw0, noBoxes, AV.view]
    exact ih'
  · simp [hsl, hrE, hvw, hlt]
theorem sameS_ok (s : Sm) : Sm.sz s < 1000000000 → SS s := by
  induction s using Sm.ind with
  | _ s ih1 ih2 =>
    intro hsz wl lim st
    have hks := Sm.sz_eq s
    have hb := Sm.szs_len s.bd
    have hl := Sm.szs_len s.el
    have e1 := fun wl lim st => sameEs_ok s.es (by omega) wl lim st
    have e2 := fun wl lim st => sameSs_of s.bd (by omega) (fun x hx => ih1 x hx (by have := Sm.szs_mem hx; omega)) wl lim st
    have e3 := fun wl lim st => sameSs_of s.el (by omega) (fun x hx => ih2 x hx (by have := Sm.szs_mem hx; omega)) wl lim st
    have a1 : isSl (esV s.es) = true := isSl_esV
    have a2 : (esV s.es).view = esV s.es := view_esV
    have b1 : isSl (ssV s.bd) = true := isSl_ssV
    have b2 : (ssV s.bd).view = ssV s.bd := view_ssV
    have c1 : isSl (ssV s.el) = true := isSl_ssV
    have c2 : (ssV s.el).view = ssV s.el := view_ssV
    rw [Sm.row_eq]
    refine call_pure (sf := s40) rfl rfl (by simp [AV.allPure, AV.isPure]) rfl (by simp) ?_
    generalize esV s.es = v at *
    generalize ssV s.bd = bv at *
    generalize ssV s.el = lv at *
    simp [s40, a1, a2, b1, b2, c1, c2, e1, e2, e3, AV.view]
theorem sameSs_ok (l : List Sm) (hn : Sm.szs l < 1000000000) (wl lim : Nat) (st : Store) : (orcL S).call wl lim 25 [ssV l, ssV l] st = some (.bool true, st) :=
  sameSs_of l (by have := Sm.szs_len l; omega) (fun x hx => sameS_ok x (by have := Sm.szs_mem hx; omega)) wl lim st

def TS (l : List Sm) : Prop := ∀ wl lim st, (orcL S).call wl lim 26 [ssV l, ssV l] st = some (.bool true, st)
theorem stmts_of (l : List Sm) (hn : Sm.szs l < 1000000000) (h : ∀ x ∈ l, TS x.bd ∧ TS x.el) : TS l := by
  intro wl lim st
  have hlen := Sm.szs_len l
  have hz : isSz 9 (ssV l) = true := isSz_Sm
  have hsl : isSl (ssV l) = true := isSl_ssV
  have hvw : (ssV l).view = ssV l := view_ssV
  have hrE : rowsL (ssV l) = Sm.rows l := rowsL_lstV
  refine call_pure (sf := s26) rfl rfl (by simp [AV.allPure]) rfl (by simp) ?_
  generalize ssV l = v at *
  simp [s26]
  refine W_loopI s26_l0.eq_1 (fun k : Nat => ⟨[(0, .val v), (1, .val v), (5, .val (.int .i64 k))], [], []⟩)
    (fun k => k ≤ l.length) (fun k => l.length - k) 0 (by simp) (by simp) ?_
  intro k hk ih
  by_cases hlt : k < l.length
  · have hw : IntKind.i64.wrap ((k : Int) + 1) = ((k + 1 : Nat) : Int) := by rw [wrap64] <;> omega
    obtain ⟨e1, e2⟩ := h l[k] (List.getElem_mem hlt)
    have hsz := Sm.szs_mem (List.getElem_mem hlt)
    have hse := Sm.sz_eq l[k]
    have e3 := places_ok l[k].es (by omega)
    have gE := Sm_get hlt
    have gE' := fun h2 => Sm_get' hlt h2
    unfold TS at e1 e2
    unfold PE at e3
    rw [Sm.row_eq] at gE
    simp only [Sm.row_eq] at gE'
    have ih' := ih (k + 1) (by omega) (by omega)
    have a2 : (esV l[k].es).view = esV l[k].es := view_esV
    have b2 : (ssV l[k].bd).view = ssV l[k].bd := view_ssV
    have c2 : (ssV l[k].el).view = ssV l[k].el := view_ssV
    generalize l[k] = x at *
    generalize esV x.es = kv at *
    generalize ssV x.bd = bv at *
    generalize ssV x.el = lv at *
    simp [hz, hsl, hrE, hvw, hlt, hw, gE', e1, e2, e3, a2, b2, c2, W_draw0, noBoxes, AV.view]
    exact ih'
  · simp [hsl, hrE, hvw, hlt]
theorem stmts_in (s : Sm) : Sm.sz s < 1000000000 → TS s.bd ∧ TS s.el := by
  induction s using Sm.ind with
  | _ s ih1 ih2 =>
    intro hsz
    have hks := Sm.sz_eq s
    exact ⟨stmts_of s.bd (by omega) fun x hx => ih1 x hx (by have := Sm.szs_mem hx; omega), stmts_of s.el (by omega) fun x hx => ih2 x hx (by have := Sm.szs_mem hx; omega)⟩
theorem stmts_ok (l : List Sm) (hn : Sm.szs l < 1000000000) : TS l := stmts_of l hn fun x hx => stmts_in x (by have := Sm.szs_mem hx; omega)

theorem sameFd_ok (wl lim : Nat) (l : List Vd) (st : Store) (hn : l.length < 1000000000) : (orcL S).call wl lim 24 [fdsV l, fdsV l] st = some (.bool true, st) := by
  have hz : isSz 4 (fdsV l) = true := isSz_fdsV
  have hsl : isSl (fdsV l) = true := isSl_fdsV
  have hvw : (fdsV l).view = fdsV l := view_fdsV
  have hrE : rowsL (fdsV l) = l.map Vd.row := rowsL_lstV
  refine call_pure (sf := s24) rfl rfl (by simp [AV.allPure]) rfl (by simp) ?_
  generalize fdsV l = v at *
  simp [s24, hsl, hvw, hrE]
  refine W_loopI s24_l0.eq_1 (fun k : Nat => ⟨[(0, .val v), (1, .val v), (5, .val (.int .i64 k))], [], []⟩)
    (fun k => k ≤ l.length) (fun k => l.length - k) 0 (by simp) (by simp) ?_
  intro k hk ih
  by_cases hlt : k < l.length
  · have hw : IntKind.i64.wrap ((k : Int) + 1) = ((k + 1 : Nat) : Int) := by rw [wrap64] <;> omega
    simp [hz, hsl, hrE, hvw, hlt, hw, Vd.row, W_draw0, noBoxes]
    exact ih (k + 1) (by omega) (by omega)
  · simp [hsl, hrE, hvw, hlt]
end K9

namespace K9
open Ax Go Code8z V7 Par Chk N7 U7
set_option maxRecDepth 100000
set_option maxHeartbeats 8000000

/-! ### The heads do not turn -/
def strip (x : FN) : FN := ⟨x.name, x.params, x.has, x.on, x.od, .nilSl, x.at_⟩
theorem firstB_map {α β : Type} {bad : List α → α → Option Int} {bad2 : List β → β → Option Int} {f : α → β} (h : ∀ b x, bad2 (b.map f) (f x) = bad b x) (l : List α) : ∀ k, firstB bad2 (l.map f) k = firstB bad l k
  | 0 => rfl
  | k + 1 => by
    unfold firstB
    rw [firstB_map h l k, List.getElem?_map]
    cases e : l[k]? with
    | none => rfl
    | some x => simp only [Option.map_some, ← List.map_take, h]
theorem badS_strip (rs : List (List UInt8)) (b : List FN) (x : FN) : badS rs (b.map strip) (strip x) = badS rs b x := by
  unfold badS badD badT
  rw [List.any_map]
  rfl
theorem mainI_strip (l : List FN) : mainI (l.map strip) = mainI l := by
  unfold mainI
  rw [List.findIdx?_map]
  rfl
theorem zip_strip : ∀ (fs : List Fc) (bs : List Bd), bs.length = fs.length → ((List.zipWith againF fs bs).map fnOf).map strip = (fs.map fnOf).map strip
  | [], [], _ => rfl
  | f :: fs, b :: bs, h => by
    have := zip_strip fs bs (by simpa using h)
    simp only [List.zipWith_cons_cons, List.map_cons]
    rw [this]
    rfl
  | [], _ :: _, h => by cases h
  | _ :: _, [], h => by cases h
theorem fault_again {p : Pg} {bs : List Bd} (h : bs.length = p.funcs.length) : faultH (gdOf (againP p bs)) = faultH (gdOf p) := by
  have hs := zip_strip p.funcs bs h
  have hl : (p.funcs.zipWith againF bs).length = p.funcs.length := by simp [h]
  have e1 : mainI (dFNs (gdOf (againP p bs)).funcs) = mainI (dFNs (gdOf p).funcs) := by
    rw [dFNs_gd, dFNs_gd, ← mainI_strip, ← mainI_strip (p.funcs.map fnOf)]
    exact congrArg mainI hs
  have e2 : ∀ rs, firstB (badS rs) (dFNs (gdOf (againP p bs)).funcs) (dFNs (gdOf (againP p bs)).funcs).length = firstB (badS rs) (dFNs (gdOf p).funcs) (dFNs (gdOf p).funcs).length := fun rs => by
    rw [dFNs_gd, dFNs_gd, ← firstB_map (badS_strip rs), ← firstB_map (badS_strip rs) (p.funcs.map fnOf)]
    rw [List.length_map, List.length_map]
    show firstB (badS rs) (((p.funcs.zipWith againF bs).map fnOf).map strip) (p.funcs.zipWith againF bs).length = _
    rw [hs, hl]
  unfold faultH
  rw [e1]
  have e3 : fault3 (gdOf (againP p bs)) = fault3 (gdOf p) := by
    unfold fault3
    have a1 : dCRs (gdOf (againP p bs)).recs = dCRs (gdOf p).recs := rfl
    have a2 : dPs (gdOf (againP p bs)).globals = dPs (gdOf p).globals := rfl
    rw [a1, a2, e2]
  rw [e3]
theorem zip_sg (rs : List (List UInt8)) : ∀ (fs : List Fc) (bs : List Bd), bs.length = fs.length → (List.zipWith againF fs bs).map (sgOf rs) = fs.map (sgOf rs)
  | [], [], _ => rfl
  | f :: fs, b :: bs, h => by
    have := zip_sg rs fs bs (by simpa using h)
    simp only [List.zipWith_cons_cons, List.map_cons]
    rw [this]
    rfl
  | [], _ :: _, h => by cases h
  | _ :: _, [], h => by cases h
theorem hd_again {p : Pg} {bs : List Bd} (h : bs.length = p.funcs.length) : hdOf (againP p bs) = hdOf p := by
  have := zip_sg (namesOf p) p.funcs bs h
  unfold hdOf
  have e : namesOf (againP p bs) = namesOf p := rfl
  rw [e]
  show Hd.mk _ _ _ ((List.zipWith againF p.funcs bs).map (sgOf (namesOf p))) = _
  rw [this]
  rfl
theorem main_again {p : Pg} {bs : List Bd} (h : bs.length = p.funcs.length) : mainP (againP p bs) = mainP p := by
  unfold mainP
  rw [dFNs_gd, dFNs_gd, ← mainI_strip, ← mainI_strip (p.funcs.map fnOf)]
  exact congrArg mainI (zip_strip p.funcs bs h)
theorem again_mem : ∀ {fs : List Fc} {bs : List Bd} {g : Fc}, g ∈ List.zipWith againF fs bs → ∃ f ∈ fs, ∃ b ∈ bs, g = againF f b
  | [], _, _, h => by simp at h
  | _ :: _, [], _, h => by simp at h
  | f :: fs, b :: bs, g, h => by
    simp only [List.zipWith_cons_cons, List.mem_cons] at h
    rcases h with h | h
    · exact ⟨f, List.mem_cons_self, b, List.mem_cons_self, h⟩
    · obtain ⟨x, hx, y, hy, e⟩ := again_mem h
      exact ⟨x, List.mem_cons_of_mem _ hx, y, List.mem_cons_of_mem _ hy, e⟩
theorem again_in {p : Pg} {bs : List Bd} (h : bs.length = p.funcs.length) (hp : Pg.In 6000 p) : Pg.In 6000 (againP p bs) := by
  refine ⟨hp.r, hp.g, ⟨by simpa [againP, h] using hp.f.1, fun g hg => ?_⟩⟩
  obtain ⟨f, hf, b, _, rfl⟩ := again_mem hg
  have := hp.f.2 f hf
  exact ⟨this.a, this.len, this.f, this.od⟩

/-! ### again, alike -/
theorem bd_get {l : List Bd} {k : Nat} (h : k < l.length) : (l.map Bd.row)[k]? = some [fdsV l[k].vars, ssV l[k].code, .int .i64 l[k].a] := by simp [h, Bd.row]
theorem bd_get' {l : List Bd} {k : Nat} (h : k < l.length) (h2 : k < (l.map Bd.row).length) : (l.map Bd.row)[k] = [fdsV l[k].vars, ssV l[k].code, .int .i64 l[k].a] := by simp [Bd.row]
theorem fn_get' {l : List Fc} {k : Nat} (h : k < l.length) (h2 : k < (l.map Fc.row).length) : (l.map Fc.row)[k] = [.str l[k].name, lstV 4 (l[k].params.map PD.cells), .bool l[k].has, .str l[k].on, .int .i64 l[k].od, ssV l[k].body, .int .i64 l[k].a] := by simp [Fc.row]
def tyCells (p : Pg) (bs : List Bd) : List AV := hdCells (hdOf p) (mainP p) ++ [lstV 3 (bs.map Bd.row)]
theorem alike_ok (wl lim : Nat) (p : Pg) (bs : List Bd) (st : Store) (hsm : GD.sm (gdOf p)) (hn : bs.length < 1000000000) (hv : ∀ b ∈ bs, b.vars.length < 1000000000) (hc : ∀ b ∈ bs, Sm.szs b.code < 1000000000) :
    (orcL S).call wl lim 10 [.agg (tyCells p bs), .agg (tyCells p bs)] st = some (.bool true, st) := by
  have es := fun wl lim st => same_ok wl lim (gdOf p) st hsm
  rw [heads_eq] at es
  simp only [hdCells] at es
  simp only [tyCells, hdCells, List.cons_append, List.nil_append]
  have hz : isSz 3 (lstV 3 (bs.map Bd.row)) = true := isSz_lst (by simp [fits, Bd.row])
  have h1 : isSl (lstV 3 (bs.map Bd.row)) = true := isSl_lstV
  have h2 : (lstV 3 (bs.map Bd.row)).view = lstV 3 (bs.map Bd.row) := view_lstV
  have h3 : rowsL (lstV 3 (bs.map Bd.row)) = bs.map Bd.row := rowsL_lstV
  have a1 : isSl (lstV 2 ((hdOf p).shapes.map shRow)) = true := isSl_lstV
  have a2 : (lstV 2 ((hdOf p).shapes.map shRow)).view = lstV 2 ((hdOf p).shapes.map shRow) := view_lstV
  have b1 : isSl (lstV 6 ((hdOf p).sigs.map Sg.row)) = true := isSl_lstV
  have b2 : (lstV 6 ((hdOf p).sigs.map Sg.row)).view = lstV 6 ((hdOf p).sigs.map Sg.row) := view_lstV
  have c1 : isSl (fdsV (hdOf p).globals) = true := isSl_fdsV
  have c2 : (fdsV (hdOf p).globals).view = fdsV (hdOf p).globals := view_fdsV
  generalize lstV 2 ((hdOf p).shapes.map shRow) = HS at *
  generalize lstV 6 ((hdOf p).sigs.map Sg.row) = HG at *
  generalize fdsV (hdOf p).globals = GL at *
  generalize lstV 3 (bs.map Bd.row) = BV at *
  refine call_pure (sf := s10) rfl rfl (by simp [AV.allPure, AV.isPure, a1, b1, c1, h1]) rfl (by simp) ?_
  simp [s10, es, h1, h2, h3, a1, a2, b1, b2, c1, c2, AV.view]
  refine W_loopI s10_l0.eq_1 (fun x : Nat × List AV × List AV => ⟨[(2, .fp 0 0), (3, .fp 1 0), (5, .val (.int .i64 x.1))], [[HS, GL, HG, .int .i64 (mainP p), BV], [HS, GL, HG, .int .i64 (mainP p), BV], x.2.1, x.2.2], []⟩)
    (fun x => x.1 ≤ bs.length) (fun x => bs.length - x.1) (0, [], []) (by simp) (by simp) ?_
  rintro ⟨k, b6, b7⟩ hk ih
  simp only at hk ih
  by_cases hlt : k < bs.length
  · have hw : IntKind.i64.wrap ((k : Int) + 1) = ((k + 1 : Nat) : Int) := by rw [wrap64] <;> omega
    have hm := List.getElem_mem hlt
    have e1 := fun wl lim st => sameFd_ok wl lim bs[k].vars st (hv _ hm)
    have e2 := fun wl lim st => sameSs_ok bs[k].code (hc _ hm) wl lim st
    have e3 := stmts_ok bs[k].code (hc _ hm)
    unfold TS at e3
    have gB := bd_get hlt
    have gB' := fun h => bd_get' hlt h
    have v1 : isSl (fdsV bs[k].vars) = true := isSl_fdsV
    have v2 : (fdsV bs[k].vars).view = fdsV bs[k].vars := view_fdsV
    have w1 : isSl (ssV bs[k].code) = true := isSl_ssV
    have w2 : (ssV bs[k].code).view = ssV bs[k].code := view_ssV
    have ih' := fun b6 b7 => ih (k + 1, b6, b7) (by simp only; omega) (by simp only; omega)
    simp only at ih'
    generalize bs[k] = b at *
    generalize fdsV b.vars = fv at *
    generalize ssV b.code = cv at *
    simp [hz, h1, h2, h3, hlt, hw, gB', e1, e2, e3, v1, v2, w1, w2, paste, AV.view, W_drawB, boxOk]
    exact ih' _ _
  · simp [h1, h2, h3, hlt]
theorem again_ok (wl lim : Nat) (p : Pg) (bs : List Bd) (st : Store) (hn : p.funcs.length < 1000000000) (hl : bs.length = p.funcs.length) :
    (orcL S).call wl lim 9 [.agg p.row, .agg (tyCells p bs)] st = some (.agg (againP p bs).row, st) := by
  simp only [tyCells, hdCells, List.cons_append, List.nil_append, Pg.row]
  have hzl : (List.zipWith againF p.funcs bs).length = p.funcs.length := by simp [hl]
  have hz : isSz 3 (lstV 3 (bs.map Bd.row)) = true := isSz_lst (by simp [fits, Bd.row])
  have h1 : isSl (lstV 3 (bs.map Bd.row)) = true := isSl_lstV
  have h2 : (lstV 3 (bs.map Bd.row)).view = lstV 3 (bs.map Bd.row) := view_lstV
  have h3 : rowsL (lstV 3 (bs.map Bd.row)) = bs.map Bd.row := rowsL_lstV
  have a1 : isSl (lstV 2 ((hdOf p).shapes.map shRow)) = true := isSl_lstV
  have b1 : isSl (lstV 6 ((hdOf p).sigs.map Sg.row)) = true := isSl_lstV
  have c1 : isSl (fdsV (hdOf p).globals) = true := isSl_fdsV
  have fz : isSz 7 (lstV 7 (p.funcs.map Fc.row)) = true := isSz_lst (by simp [fits, Fc.row])
  have f1 : isSl (lstV 7 (p.funcs.map Fc.row)) = true := isSl_lstV
  have f2 : (lstV 7 (p.funcs.map Fc.row)).view = lstV 7 (p.funcs.map Fc.row) := view_lstV
  have f3 : rowsL (lstV 7 (p.funcs.map Fc.row)) = p.funcs.map Fc.row := rowsL_lstV
  have r1 : isSl (lstV 3 (p.recs.map Rc.row)) = true := isSl_lstV
  have r2 : (lstV 3 (p.recs.map Rc.row)).view = lstV 3 (p.recs.map Rc.row) := view_lstV
  have g1 : isSl (lstV 4 (p.globals.map PD.cells)) = true := isSl_lstV
  have g2 : (lstV 4 (p.globals.map PD.cells)).view = lstV 4 (p.globals.map PD.cells) := view_lstV
  show _ = some (AV.agg [lstV 3 (p.recs.map Rc.row), lstV 4 (p.globals.map PD.cells), lstV 7 ((List.zipWith againF p.funcs bs).map Fc.row)], st)
  have m1 : isSl (lstV 7 ((List.zipWith againF p.funcs bs).map Fc.row)) = true := isSl_lstV
  generalize hM : lstV 7 ((List.zipWith againF p.funcs bs).map Fc.row) = M2 at *
  generalize lstV 2 ((hdOf p).shapes.map shRow) = HS at *
  generalize lstV 6 ((hdOf p).sigs.map Sg.row) = HG at *
  generalize fdsV (hdOf p).globals = GL at *
  generalize lstV 3 (bs.map Bd.row) = BV at *
  generalize lstV 3 (p.recs.map Rc.row) = PR at *
  generalize lstV 7 (p.funcs.map Fc.row) = PF at *
  generalize lstV 4 (p.globals.map PD.cells) = PG at *
  refine call_pure (sf := s9) rfl rfl (by simp [AV.allPure, AV.isPure, a1, b1, c1, h1, f1, r1, g1]) rfl (by simp [AV.allPure, AV.isPure, r1, g1, m1]) ?_
  simp [s9, h1, a1, b1, c1, f1, r1, r2, g1, g2, paste]
  refine W_loopI s9_l0.eq_1 (fun x : Nat × List AV => ⟨[(2, .fp 0 0), (3, .fp 1 0), (4, .fp 2 0), (5, .fp 3 0), (6, .val (.int .i64 x.1))], [[PR, PG, PF], [HS, GL, HG, .int .i64 (mainP p), BV], [.nilSl, .nilSl, .nilSl], [PR, PG, mkL 7 (((List.zipWith againF p.funcs bs).take x.1).map Fc.row)], x.2], []⟩)
    (fun x => x.1 ≤ p.funcs.length) (fun x => p.funcs.length - x.1) (0, []) (by simp [mkL_nil]) (by simp) ?_
  rintro ⟨k, b7⟩ hk ih
  simp only at hk ih
  by_cases hlt : k < p.funcs.length
  · have hw : IntKind.i64.wrap ((k : Int) + 1) = ((k + 1 : Nat) : Int) := by rw [wrap64] <;> omega
    have hlb : k < bs.length := by omega
    have gB := bd_get hlb
    have gB' := fun h => bd_get' hlb h
    have gF := fn_get hlt
    have gF' := fun h => fn_get' hlt h
    have hzk : k < (List.zipWith againF p.funcs bs).length := by omega
    have hnew : (List.zipWith againF p.funcs bs)[k] = againF p.funcs[k] bs[k] := by simp
    have hap := appV_mk (sz := 7) (bytes := 104) (r := ((List.zipWith againF p.funcs bs).take k).map Fc.row) (new := [(againF p.funcs[k] bs[k]).row]) (by simp [fits, Fc.row]) (by simp [room]; omega)
    have hrw : ((List.zipWith againF p.funcs bs).take k).map Fc.row ++ [(againF p.funcs[k] bs[k]).row] = ((List.zipWith againF p.funcs bs).take (k + 1)).map Fc.row := by
      rw [List.take_succ_eq_append_getElem hzk, hnew]; simp
    rw [hrw] at hap
    have ih' := fun b7 => ih (k + 1, b7) (by simp only; omega) (by simp only; omega)
    simp only at ih'
    simp only [Fc.row, againF] at hap
    have w1 : isSl (ssV bs[k].code) = true := isSl_ssV
    have w2 : (ssV bs[k].code).view = ssV bs[k].code := view_ssV
    have u1 : isSl (ssV p.funcs[k].body) = true := isSl_ssV
    have u2 : (ssV p.funcs[k].body).view = ssV p.funcs[k].body := view_ssV
    have p1 : isSl (lstV 4 (p.funcs[k].params.map PD.cells)) = true := isSl_lstV
    have p2 : (lstV 4 (p.funcs[k].params.map PD.cells)).view = lstV 4 (p.funcs[k].params.map PD.cells) := view_lstV
    have n1 : isSl (mkL 7 (((List.zipWith againF p.funcs bs).take (k + 1)).map Fc.row)) = true := isSl_mk
    generalize mkL 7 (((List.zipWith againF p.funcs bs).take (k + 1)).map Fc.row) = M1 at *
    generalize mkL 7 (((List.zipWith againF p.funcs bs).take k).map Fc.row) = M0 at *
    have hkF : k < (p.funcs.map Fc.row).length := by simpa using hlt
    have hkB : k < (bs.map Bd.row).length := by simpa using hlb
    have gF'' := gF' hkF
    have gB'' := gB' hkB
    clear gF' gB'
    generalize p.funcs.map Fc.row = RF at *
    generalize bs.map Bd.row = RB at *
    generalize p.funcs[k] = f at *
    generalize bs[k] = b at *
    generalize ssV b.code = cv at *
    generalize ssV f.body = fb at *
    generalize lstV 4 (f.params.map PD.cells) = fp at *
    simp [hz, h2, h3, f1, f2, f3, fz, hkF, hkB, hw, gB'', gF'', hap, w1, w2, u1, u2, p1, p2, n1, paste, AV.view]
    exact ih' _
  · have hkl : k = p.funcs.length := by omega
    have ht : (List.zipWith againF p.funcs bs).take k = List.zipWith againF p.funcs bs := by rw [hkl, ← hzl, List.take_length]
    rw [ht]
    have n1 : isSl (mkL 7 ((List.zipWith againF p.funcs bs).map Fc.row)) = true := isSl_mk
    have n2 : (mkL 7 ((List.zipWith againF p.funcs bs).map Fc.row)).view = M2 := by rw [← hM]; rfl
    generalize mkL 7 ((List.zipWith againF p.funcs bs).map Fc.row) = M1 at *
    simp [f1, f2, f3, hlt, r1, r2, g1, g2, n2, m1, paste, AV.view]
end K9

namespace K9
open Ax Go Code8z V7 Par Chk N7 U7
set_option maxRecDepth 100000
set_option maxHeartbeats 8000000

theorem progS_small (s : List UInt8) : ∀ f ∈ (progS s).1.funcs, Sm.szs f.body ≤ 6001 := by
  unfold progS
  split
  · rename_i hl
    generalize htp : U2.tokP s = z
    obtain ⟨rows, e⟩ := z
    cases e with
    | some e => intro f hf; cases hf
    | none =>
      obtain ⟨hall, hlen⟩ := tok_all htp
      obtain ⟨x, hx⟩ := some_progOf (tksOf rows)
      simp only
      rw [hx, Option.getD_some]
      have hTl : (tksOf rows).length = rows.length := by simp [tksOf]
      intro f hf
      have := size_prog hx f hf
      omega
  · intro f hf; cases hf
theorem hd_par (p : Pg) (hp : Pg.In 6000 p) : ∀ s ∈ (hdOf p).sigs, s.ps.length ≤ 7 := by
  intro s hs
  obtain ⟨f, hf, rfl⟩ := List.mem_map.1 hs
  have := (hp.f.2 f hf).len
  simpa [sgOf, fdsOf] using this
theorem law_again (s : List UInt8) : (orcL S).call 0 0 3 [.str s] [] = some (.bool true, []) := by
  have ep := fun wl lim st => prog_ok wl lim s st
  obtain ⟨hin, _⟩ := progS_in s
  have hsm := progS_small s
  have hgd := gd_ok hin
  have hgs := gd_sm hin
  have ec := fun wl lim st => check_ok wl lim (progS s).1 st hgd hgs (fun f hf => by
    have := hsm f hf
    have := (hin.f.2 f hf).len
    omega)
  have ek := fun wl lim st => call_any (S := S) (f := 8) (sf := s8) rfl rfl (args := []) rfl known0 wl lim st
  generalize hP : progS s = P at *
  obtain ⟨p, fe, fa⟩ := P
  simp only at hin hsm hgd hgs ec ep
  have hpr : p.row = [lstV 3 (p.recs.map Rc.row), lstV 4 (p.globals.map PD.cells), lstV 7 (p.funcs.map Fc.row)] := rfl
  have f1 : isSl (lstV 7 (p.funcs.map Fc.row)) = true := isSl_lstV
  have f2 : (lstV 7 (p.funcs.map Fc.row)).view = lstV 7 (p.funcs.map Fc.row) := view_lstV
  have f3 : rowsL (lstV 7 (p.funcs.map Fc.row)) = p.funcs.map Fc.row := rowsL_lstV
  have r1 : isSl (lstV 3 (p.recs.map Rc.row)) = true := isSl_lstV
  have r2 : (lstV 3 (p.recs.map Rc.row)).view = lstV 3 (p.recs.map Rc.row) := view_lstV
  have g1 : isSl (lstV 4 (p.globals.map PD.cells)) = true := isSl_lstV
  have g2 : (lstV 4 (p.globals.map PD.cells)).view = lstV 4 (p.globals.map PD.cells) := view_lstV
  refine call_pure (sf := s3) rfl rfl (by simp) rfl (by simp) ?_
  by_cases hl : (4000 : Int) < (s.length : Int)
  · rw [hpr] at ep
    simp [s3, ep, hl]
  by_cases hf : fe = 0
  · unfold typedV at ec
    cases hF : faultH (gdOf p) with
    | some a =>
      rw [hF] at ec
      rw [hpr] at ep ec
      generalize lstV 3 (p.recs.map Rc.row) = PR at *
      generalize lstV 7 (p.funcs.map Fc.row) = PF at *
      generalize lstV 4 (p.globals.map PD.cells) = PG at *
      simp [s3, ep, hl, hf, ec, ek, f1, f2, r1, r2, g1, g2, paste, AV.view]
    | none =>
      rw [hF] at ec
      simp only at ec
      cases hR : ckF (hdOf p) (hdOf p).sigs p.funcs with
      | error a =>
        rw [hR] at ec
        simp only [bodV] at ec
        rw [hpr] at ep ec
        generalize lstV 3 (p.recs.map Rc.row) = PR at *
        generalize lstV 7 (p.funcs.map Fc.row) = PF at *
        generalize lstV 4 (p.globals.map PD.cells) = PG at *
        simp [s3, ep, hl, hf, ec, ek, f1, f2, r1, r2, g1, g2, paste, AV.view]
      | ok bs =>
        rw [hR] at ec
        have hsl : (hdOf p).sigs.length = p.funcs.length := by simp [hdOf]
        have hbl : bs.length = p.funcs.length := ckF_len hsl hR
        have hfn := hin.f.1
        have ea := fun wl lim st => again_ok wl lim p bs st (by omega) hbl
        have hin2 := again_in hbl hin
        have hcs := ckF_small hR hsm
        have hvs := ckF_vars (n := 6001) (hd_ok p) hR (fun s hs => ((hd_ok p).sigs s hs).2) (fun s hs => by have := hd_par p hin s hs; omega) hsm
        have ec2 := fun wl lim st => check_ok wl lim (againP p bs) st (gd_ok hin2) (gd_sm hin2) (fun f hf => by
          have := (hin2.f.2 f hf).len
          obtain ⟨g, _, b, hb, rfl⟩ := again_mem hf
          have := hcs b hb
          simp only [againF] at *
          omega)
        unfold typedV at ec2
        rw [fault_again hbl, hF] at ec2
        simp only [hd_again hbl, main_again hbl] at ec2
        have hR2 : ckF (hdOf p) (hdOf p).sigs (againP p bs).funcs = .ok bs := ckF_again hR
        rw [hR2] at ec2
        have ey := fun wl lim st => alike_ok wl lim p bs st hgs (by omega) (fun b hb => by have := hvs b hb; omega) (fun b hb => by have := hcs b hb; omega)
        simp only [bodV, tyCells] at ec ec2 ey ea
        have hpr2 : (againP p bs).row = [lstV 3 (p.recs.map Rc.row), lstV 4 (p.globals.map PD.cells), lstV 7 ((againP p bs).funcs.map Fc.row)] := rfl
        rw [hpr2] at ec2 ea
        rw [hpr] at ep ec ea
        simp only [hdCells, List.cons_append, List.nil_append] at ec ec2 ey ea
        have z1 : isSl (lstV 3 (bs.map Bd.row)) = true := isSl_lstV
        have z2 : (lstV 3 (bs.map Bd.row)).view = lstV 3 (bs.map Bd.row) := view_lstV
        have z3 : rowsL (lstV 3 (bs.map Bd.row)) = bs.map Bd.row := rowsL_lstV
        have a1 : isSl (lstV 2 ((hdOf p).shapes.map shRow)) = true := isSl_lstV
        have a2 : (lstV 2 ((hdOf p).shapes.map shRow)).view = lstV 2 ((hdOf p).shapes.map shRow) := view_lstV
        have b1 : isSl (lstV 6 ((hdOf p).sigs.map Sg.row)) = true := isSl_lstV
        have b2 : (lstV 6 ((hdOf p).sigs.map Sg.row)).view = lstV 6 ((hdOf p).sigs.map Sg.row) := view_lstV
        have c1 : isSl (fdsV (hdOf p).globals) = true := isSl_fdsV
        have c2 : (fdsV (hdOf p).globals).view = fdsV (hdOf p).globals := view_fdsV
        have y1 : isSl (lstV 7 ((againP p bs).funcs.map Fc.row)) = true := isSl_lstV
        have y2 : (lstV 7 ((againP p bs).funcs.map Fc.row)).view = lstV 7 ((againP p bs).funcs.map Fc.row) := view_lstV
        generalize lstV 2 ((hdOf p).shapes.map shRow) = HS at *
        generalize lstV 6 ((hdOf p).sigs.map Sg.row) = HG at *
        generalize fdsV (hdOf p).globals = GL at *
        generalize lstV 3 (bs.map Bd.row) = BV at *
        generalize lstV 7 ((againP p bs).funcs.map Fc.row) = QF at *
        generalize lstV 3 (p.recs.map Rc.row) = PR at *
        generalize lstV 7 (p.funcs.map Fc.row) = PF at *
        generalize lstV 4 (p.globals.map PD.cells) = PG at *
        simp [s3, ep, hl, hf, ec, ec2, ey, ea, ek, hbl, f1, f2, f3, r1, r2, g1, g2, z1, z2, z3, a1, a2, b1, b2, c1, c2, paste, AV.view]
  · rw [hpr] at ep
    simp [s3, ep, hl, hf]
end K9
