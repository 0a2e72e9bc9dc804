/- Part of a proof. -/
import Derived.Test.YtffjnjnkhjmgfaaQ

namespace U12
open Ax Go Code12 IrV
set_option maxRecDepth 100000
set_option maxHeartbeats 4000000

/-- Two codes that differ in their instructions alone. -/
structure sim (c d : CD) : Prop where
  params : c.params = d.params
  vars : dTs c.vars = dTs d.vars
  has : c.has = d.has
  res : c.res = d.res
  len : (dNs c.ins).length = (dNs d.ins).length

theorem sim.refl (c : CD) : sim c c := ⟨rfl, rfl, rfl, rfl, rfl⟩

def simL : List CD → List CD → Prop
  | [], [] => True
  | c :: l, d :: m => sim c d ∧ simL l m
  | _, _ => False

theorem simL_refl : ∀ l, simL l l
  | [] => trivial
  | c :: l => ⟨sim.refl c, simL_refl l⟩
theorem simL_set : ∀ (l : List CD) (k : Nat) (h : k < l.length) (d : CD), sim l[k] d → simL l (l.set k d)
  | c :: l, 0, _, d, h => ⟨h, simL_refl l⟩
  | c :: l, k + 1, h, d, hs => ⟨sim.refl c, simL_set l k (by simpa using h) d hs⟩
theorem simL_len : ∀ {l m : List CD}, simL l m → l.length = m.length
  | [], [], _ => rfl
  | _ :: _, _ :: _, h => by simp [simL_len h.2]
  | [], _ :: _, h => h.elim
  | _ :: _, [], h => h.elim
theorem simL_get : ∀ {l m : List CD} (k : Nat), simL l m → (l[k]? = none ∧ m[k]? = none) ∨ ∃ c d, l[k]? = some c ∧ m[k]? = some d ∧ sim c d
  | [], [], _, _ => .inl ⟨rfl, rfl⟩
  | c :: _, d :: _, 0, h => .inr ⟨c, d, rfl, rfl, h.1⟩
  | _ :: l, _ :: m, k + 1, h => by simpa using simL_get k h.2
  | [], _ :: _, _, h => h.elim
  | _ :: _, [], _, h => h.elim
theorem simL_getZ {l m : List CD} (n : Int) (h : simL l m) : (getZ l n = none ∧ getZ m n = none) ∨ ∃ c d, getZ l n = some c ∧ getZ m n = some d ∧ sim c d := by
  unfold getZ
  split
  · exact simL_get _ h
  · exact .inl ⟨rfl, rfl⟩

theorem sim_clg {g d : CD} (h : sim g d) (vs : List T3) (i : ID) : clgR vs i g = clgR vs i d := by
  simp only [clgR, h.params, h.vars, h.has, h.res]

theorem sim_step {x y : XD} (hr : x.recs = y.recs) (hg : x.globals = y.globals) (hs : x.sites = y.sites) (hc : simL (dCs x.codes) (dCs y.codes)) (f : Int) (i : ID) : stepR x f i = stepR y f i := by
  unfold stepR
  rcases simL_getZ f hc with ⟨e1, e2⟩ | ⟨c, d, e1, e2, h⟩
  · rw [e1, e2]
  · rw [e1, e2]
    dsimp only
    rw [h.vars]
    have e13 : calR (dCs x.codes) (dTs d.vars) i = calR (dCs y.codes) (dTs d.vars) i := by
      unfold calR
      rcases simL_getZ i.c hc with ⟨e1, e2⟩ | ⟨c, d, e1, e2, h⟩
      · rw [e1, e2]
      · rw [e1, e2]
        exact sim_clg h _ _
    have : bodyR x f c i = bodyR y f d i := by
      funext a b e
      unfold bodyR
      simp only [hr, hg, hs, h.vars, e13, h.has, h.res, h.len]
    rw [this]

theorem sim_ck {x y : XD} (hn : nr x = nr y) : ∀ (l m : List CD) (n : Int), simL l m → ckR x l n = ckR y m n
  | [], [], _, _ => rfl
  | c :: l, d :: m, n, h => by
    have e : (dNs c.ins = []) ↔ (dNs d.ins = []) := by rw [← List.length_eq_zero_iff, ← List.length_eq_zero_iff, h.1.len]
    simp only [ckR, h.1.params, h.1.vars, h.1.has, h.1.res, h.1.len, hn, e, sim_ck hn l m _ h.2]
  | [], _ :: _, _, h => h.elim
  | _ :: _, [], _, h => h.elim

theorem st_set {x y : XD} (hst : ∀ f i, stepR x f i = stepR y f i) (c : CD) : ∀ (l : List CD) (k : Nat) (f : Int), stR x l f = true → k < l.length → stR y (l.set k c) f = ((dNs c.ins).all (stepR x (f + k)) && lastT (dNs c.ins))
  | d :: l, 0, f, h, _ => by
    have e : stepR y f = stepR x f := funext fun i => (hst f i).symm
    have e2 : stR y l (f + 1) = stR x l (f + 1) := stR_eq l (f + 1)
    simp only [stR, Bool.and_eq_true] at h
    simp [stR, e, e2, h.2]
  | d :: l, k + 1, f, h, hk => by
    have e : stepR y f = stepR x f := funext fun i => (hst f i).symm
    simp only [stR, Bool.and_eq_true] at h
    have hi := st_set hst c l k (f + 1) h.2 (by simpa using hk)
    have e3 : f + 1 + (k : Int) = f + ((k + 1 : Nat) : Int) := by omega
    rw [e3] at hi
    simp only [List.set_cons_succ, stR, e, h.1, Bool.true_and, hi]
where
  stR_eq : ∀ (l : List CD) (f : Int), stR y l f = stR x l f
  | [], _ => rfl
  | d :: l, f => by
    have e : stepR y f = stepR x f := funext fun i => (hst f i).symm
    simp only [stR, e, stR_eq l]

theorem all_set {α : Type} {p : α → Bool} : ∀ {l : List α} {k : Nat} {a : α}, l.all p = true → k < l.length → (l.set k a).all p = p a
  | b :: l, 0, a, h, _ => by
    simp only [List.all_cons, Bool.and_eq_true] at h
    simp only [List.set_cons_zero, List.all_cons, h.2, Bool.and_true]
  | b :: l, k + 1, a, h, hk => by
    simp only [List.all_cons, Bool.and_eq_true] at h
    simp only [List.set_cons_succ, List.all_cons, h.1, Bool.true_and]
    exact all_set h.2 (by simpa using hk)

def endsT (i : ID) : Bool := decide (i.op = 16) || decide (i.op = 17) || decide (i.op = 18)
theorem last_set {l : List ID} {k : Nat} {i : ID} (h : lastT l = true) (hk : k < l.length) : lastT (l.set k i) = (decide ((k : Int) < (l.length : Int) - 1) || endsT i) := by
  obtain ⟨m, hm⟩ : ∃ m, l.length = m + 1 := ⟨l.length - 1, by omega⟩
  rw [lastT_at hm] at h
  rw [lastT_at (m := m) (by simpa using hm)]
  by_cases e : k = m
  · subst e
    have : ¬ (k : Int) < (l.length : Int) - 1 := by omega
    simp [this, endsT]
  · have : (k : Int) < (l.length : Int) - 1 := by omega
    simp only [List.getElem_set, e, if_false, this, decide_true, Bool.true_or]
    exact h

def mainR (l : List CD) (n : Int) : Bool := match getZ l n with
    | none => false
    | some m => decide (m.params = 0) && !m.has
theorem rightR_parts (x : XD) : rightR x = (decide (¬ 12 < ((dRs x.recs).length : Int)) && decide (¬ 8 < ((dTs x.globals).length : Int)) && decide (¬ dCs x.codes = []) && decide (¬ 16 < ((dCs x.codes).length : Int)) &&
  decide (¬ 60 < ((dSs x.sites).length : Int)) && (dTs x.globals).all (mayT (nr x)) && (dRs x.recs).all (recT (nr x)) && (dSs x.sites).all (siteT (nr x) (dCs x.codes).length) && ckR x (dCs x.codes) 0 && stR x (dCs x.codes) 0 &&
  mainR (dCs x.codes) x.main) := rfl

theorem turned_eq {x y : XD} {k p : Nat} {c : CD} {i : ID} (hr : x.recs = y.recs) (hg : x.globals = y.globals) (hs : x.sites = y.sites) (hm : x.main = y.main) (hk : k < (dCs x.codes).length) (hy : dCs y.codes = (dCs x.codes).set k c)
    (hsim : sim (dCs x.codes)[k] c) (hp : p < (dNs (dCs x.codes)[k].ins).length) (hins : dNs c.ins = (dNs (dCs x.codes)[k].ins).set p i) (hx : rightT x = true) :
    rightT y = (stepT x k i && (decide ((p : Int) < ((dNs (dCs x.codes)[k].ins).length : Int) - 1) || endsT i)) := by
  have hL : simL (dCs x.codes) (dCs y.codes) := by rw [hy]; exact simL_set _ k hk c hsim
  have hst := sim_step hr hg hs hL
  rw [right_eq] at hx
  rw [right_eq, step_eq]
  have hlen := simL_len hL
  have hne : (dCs y.codes = []) ↔ (dCs x.codes = []) := by rw [← List.length_eq_zero_iff, ← List.length_eq_zero_iff, hlen]
  have hn : nr y = nr x := by unfold nr; rw [hr]
  have hck := sim_ck hn.symm _ _ 0 hL
  have hmain : mainR (dCs y.codes) y.main = mainR (dCs x.codes) x.main := by
    rw [← hm]
    unfold mainR
    rcases simL_getZ x.main hL with ⟨e1, e2⟩ | ⟨c, d, e1, e2, h⟩
    · rw [e1, e2]
    · rw [e1, e2]; dsimp only; rw [h.params, h.has]
  rw [rightR_parts] at hx ⊢
  simp only [Bool.and_eq_true] at hx
  obtain ⟨⟨⟨⟨⟨⟨⟨⟨⟨⟨a1, a2⟩, a3⟩, a4⟩, a5⟩, a6⟩, a7⟩, a8⟩, a9⟩, a10⟩, a11⟩ := hx
  have h1 := st_set hst c _ k 0 a10 hk
  rw [← hy] at h1
  have hall : (dNs (dCs x.codes)[k].ins).all (stepR x (0 + k)) = true ∧ lastT (dNs (dCs x.codes)[k].ins) = true := by
    have h2 := st_set (x := x) (y := x) (fun _ _ => rfl) (dCs x.codes)[k] _ k 0 a10 hk
    rw [List.set_getElem_self, a10] at h2
    simpa only [Bool.and_eq_true] using h2.symm
  rw [hins, all_set hall.1 hp, last_set hall.2 hp] at h1
  rw [hmain, ← hck, h1, hn, ← hlen, ← hr, ← hg, ← hs]
  simp only [hne, a1, a2, a3, a4, a5, a6, a7, a8, a9, a11, Bool.true_and, Bool.and_true]
  rw [Int.zero_add]
end U12

namespace U12
open Ax Go Code12 IrV
set_option maxRecDepth 100000
set_option maxHeartbeats 4000000

theorem low_bits (n : Int) : ∃ q : Nat, ((n % 2 ^ IntKind.i64.bits).toNat &&& 1023 % 2 ^ IntKind.i64.bits) = q ∧ q ≤ 1023 := by
  refine ⟨_, rfl, ?_⟩
  have : 1023 % 2 ^ IntKind.i64.bits = 1023 := by decide
  rw [this]
  exact Nat.and_le_right

theorem right_last {x : XD} (hx : rightT x = true) {k : Nat} (hk : k < (dCs x.codes).length) : lastT (dNs (dCs x.codes)[k].ins) = true := by
  rw [right_eq, rightR_parts] at hx
  simp only [Bool.and_eq_true] at hx
  have h2 := st_set (x := x) (y := x) (fun _ _ => rfl) (dCs x.codes)[k] _ k 0 hx.1.2 hk
  rw [List.set_getElem_self, hx.1.2] at h2
  simp only [Bool.true_eq, Bool.and_eq_true] at h2
  exact h2.2

theorem freezeC_sl {wl : Nat} {v : AV} {st : Store} (h : isSl v = true) (hv : v.view = v) : freezeC wl v st = some (v, st) := by
  cases v <;> simp [isSl] at h <;> simp [freezeC, AV.isPure, AV.isCell, AV.view] at *
theorem freezeC_int (wl : Nat) (k : IntKind) (n : Int) (st : Store) : freezeC wl (.int k n) st = some (.int k n, st) := rfl
theorem freezeC_bool (wl : Nat) (b : Bool) (st : Store) : freezeC wl (.bool b) st = some (.bool b, st) := rfl
theorem freezeC_mu {wl id ver sz : Nat} {rows : List (List AV)} {st : Store} (h : st[id]? = some (.rows ver sz rows)) (hp : rows.all AV.allPure = true) (he : rows.isEmpty = false) (hw : wl ≤ id) (hv : rows.map AV.viewL = rows) :
    freezeC wl (.mu id ver) st = some (.lst sz rows, st.set id (.rows (ver + 1) sz [])) := by
  simp only [freezeC, h, hp, he, hv, decide_eq_true hw, Bool.not_false, Bool.and_self, if_true, decide_true]
theorem freezeL_code (wl : Nat) (c : CD) (hT : isTs c.vars = true) (hN : isNs c.ins = true) (st : Store) : freezeL wl c.cells st = some (c.cells, st) := by
  have h1 := freezeC_sl (wl := wl) (st := st) (isSl_T hT) (isTs_vw hT)
  have h2 := freezeC_sl (wl := wl) (st := st) (isSl_N hN) (isNs_vw hN)
  simp only [CD.cells, freezeL, h1, h2, freezeC_int, freezeC_bool]
theorem freezeLL_set {wl : Nat} {r r' : List AV} {st st' : Store} (h : freezeL wl r st = some (r', st')) : ∀ {l : List (List AV)} {k : Nat}, (∀ r ∈ l, ∀ st, freezeL wl r st = some (r, st)) → k < l.length → freezeLL wl (l.set k r) st = some (l.set k r', st')
  | a :: l, 0, hl, _ => by
    have h1 : ∀ (l : List (List AV)) st, (∀ r ∈ l, ∀ st, freezeL wl r st = some (r, st)) → freezeLL wl l st = some (l, st) := by
      intro l
      induction l with
      | nil => exact fun _ _ => rfl
      | cons b l ih =>
        intro st hl
        simp only [freezeLL, hl b (List.mem_cons_self ..) st, ih st fun r hr => hl r (List.mem_cons_of_mem _ hr)]
    simp only [List.set_cons_zero, freezeLL, h, h1 l st' fun r hr => hl r (List.mem_cons_of_mem _ hr)]
  | a :: l, k + 1, hl, hk => by
    simp only [List.set_cons_succ, freezeLL, hl a (List.mem_cons_self ..) st, freezeLL_set h (fun r hr => hl r (List.mem_cons_of_mem _ hr)) (by simpa using hk)]

theorem dC_cells (c : CD) : dC c.cells = c := rfl
theorem dN_cells (i : ID) : dN i.cells = i := rfl
theorem dCs_lst (l : List CD) : dCs (.lst 7 (l.map CD.cells)) = l := by simp [dCs, List.map_map, Function.comp_def, dC_cells]
theorem dNs_lst (l : List ID) : dNs (.lst 6 (l.map ID.cells)) = l := by simp [dNs, List.map_map, Function.comp_def, dN_cells]
theorem isNs_lst {l : List ID} (h : ∀ i ∈ l, idRow i.cells = true) : isNs (.lst 6 (l.map ID.cells)) = true := by
  simp only [isNs, isRows, notOwn, isSz_lst, rowsL_lst, beq_self_eq_true, Bool.true_and, Bool.and_eq_true, List.all_eq_true, fits, List.mem_map, beq_iff_eq]
  exact ⟨fun r ⟨i, _, e⟩ => e ▸ rfl, fun r ⟨i, hi, e⟩ => e ▸ h i hi⟩
theorem isCs_lst {l : List CD} (h : ∀ i ∈ l, cdRow i.cells = true) : isCs (.lst 7 (l.map CD.cells)) = true := by
  simp only [isCs, isRows, notOwn, isSz_lst, rowsL_lst, beq_self_eq_true, Bool.true_and, Bool.and_eq_true, List.all_eq_true, fits, List.mem_map, beq_iff_eq]
  exact ⟨fun r ⟨i, _, e⟩ => e ▸ rfl, fun r ⟨i, hi, e⟩ => e ▸ h i hi⟩
theorem isCs_row {v : AV} (h : isCs v = true) : ∀ c ∈ dCs v, cdRow c.cells = true := by
  intro c hc
  have h1 : c.cells ∈ rowsL v := by rw [rowsL_C h]; exact List.mem_map.2 ⟨c, hc, rfl⟩
  exact isRows_all h _ h1
theorem isNs_row {v : AV} (h : isNs v = true) : ∀ c ∈ dNs v, idRow c.cells = true := by
  intro c hc
  have h1 : c.cells ∈ rowsL v := by rw [rowsL_N h]; exact List.mem_map.2 ⟨c, hc, rfl⟩
  exact isRows_all h _ h1

theorem law_turned (x : XD) (f at_ : Int) (i : ID) (hx : x.ok) (hi : isI i.args = true) (hno : notOwn i.args = true) (hir : idRow i.cells = true) :
    (orcL S).call 0 0 5 [xAV x, .int .i64 f, .int .i64 at_, idAV i] [] = some (.bool true, []) := by
  have hs := hx.sl
  have hC := hx.codes
  have h1 := isSl_I hi
  have h2 := view_notOwn hno h1
  have hg := great_ok 0 0 [] hx
  simp only [xAV] at hg
  have hlc := rowsL_C hC
  refine call_pure (sf := s5) rfl rfl (by simp [hx.pure, idPure hi]) rfl (by simp) ?_
  cases eg : greatT x with
  | true => simp [s5, xAV, idAV, hs, h1, hg, eg]
  | false =>
    obtain ⟨b1, b2, b4, b5, b6, b7, b3⟩ := great_bounds eg
    have hb : ∀ g ∈ dCs x.codes, (dTs g.vars).length < 1000000000 := fun g hgm => by have := b1 g hgm; omega
    have hb2 : ∀ g ∈ dCs x.codes, (dNs g.ins).length < 1000000000 := fun g hgm => by have := b2 g hgm; omega
    have hb3 : ∀ r ∈ dRs x.recs, (dFs r.fields).length < 1000000000 := fun r hr => by have := b3 r hr; omega
    have e2 := rright_ok 0 0 [] hx hb hb2 hb3
    rw [← right_eq] at e2
    simp only [xAV] at e2
    cases er : rightT x with
    | false => simp [s5, xAV, idAV, hs, h1, hg, eg, e2, er]
    | true =>
      by_cases f0 : f < 0
      · simp [s5, xAV, idAV, hs, h1, hg, eg, e2, er, f0]
      obtain ⟨k, rfl⟩ : ∃ k : Nat, f = k := ⟨f.toNat, by omega⟩
      by_cases hk : k < (dCs x.codes).length
      · have hk' : ¬ ((dCs x.codes).length : Int) ≤ (k : Int) := by omega
        by_cases ha : (20 : Int) < ((dI i.args).length : Int)
        · simp [s5, xAV, idAV, hs, h1, h2, hg, eg, e2, er, f0, hk', hlc, rowsL_I hi, ha]
        · obtain ⟨q, hq, hq2⟩ := low_bits at_
          have hcm := isCs_get hC _ (List.getElem_mem hk)
          have hNs := isSl_N hcm.2
          have hNv := isNs_vw hcm.2
          have hNl := rowsL_N hcm.2
          have hTs := isSl_T hcm.1
          have hTv := isTs_vw hcm.1
          have hlast := right_last er hk
          have hn0 : 0 < (dNs (dCs x.codes)[k].ins).length := by
            rcases e : dNs (dCs x.codes)[k].ins with _ | ⟨a, l⟩
            · rw [e] at hlast; cases hlast
            · simp
          have hn500 := b2 _ (List.getElem_mem hk)
          generalize hc : (dCs x.codes)[k] = c at *
          have hn1 : ¬ dNs c.ins = [] := fun e => by rw [e] at hn0; simp at hn0
          have hwq : IntKind.i64.wrap (q : Int) = (q : Int) := by rw [wrap64] <;> omega
          have hmod : (q : Int).tmod ((dNs c.ins).length : Int) = ((q % (dNs c.ins).length : Nat) : Int) := rfl
          have hp : q % (dNs c.ins).length < (dNs c.ins).length := Nat.mod_lt _ hn0
          generalize q % (dNs c.ins).length = p at *
          have hID : ∀ a : ID, a.cells.length = 6 := fun _ => rfl
          have hr1 : ((dCs x.codes).length) * 88 ≤ room := by unfold room; omega
          have hr2 : ((dNs c.ins).length) * 64 ≤ room := by unfold room; omega
          have hpa : paste (dNs c.ins)[p].cells 0 [.int .i64 i.op, .int .i64 i.a, .int .i64 i.b, .int .i64 i.c, .int .i64 i.n, i.args] = i.cells := rfl
          have hset : (List.map ID.cells (dNs c.ins)).set p i.cells = List.map ID.cells ((dNs c.ins).set p i) := by rw [List.map_set]
          obtain ⟨L, hL⟩ : ∃ L, L = (dNs c.ins).set p i := ⟨_, rfl⟩
          have hLr : ∀ j ∈ L, idRow j.cells = true := by
            intro j hj
            rw [hL] at hj
            rcases List.mem_or_eq_of_mem_set hj with h | h
            · exact isNs_row hcm.2 j h
            · rw [h]; exact hir
          have hLN := isNs_lst hLr
          obtain ⟨d, hd⟩ : ∃ d : CD, d = ⟨c.params, c.vars, c.has, c.res, .lst 6 (L.map ID.cells)⟩ := ⟨_, rfl⟩
          obtain ⟨M, hM⟩ : ∃ M, M = (dCs x.codes).set k d := ⟨_, rfl⟩
          obtain ⟨y, hy⟩ : ∃ y : XD, y = ⟨x.recs, x.globals, .lst 7 (M.map CD.cells), x.sites, x.main⟩ := ⟨_, rfl⟩
          have hdN : dNs d.ins = L := by rw [hd]; exact dNs_lst L
          have hyC : dCs y.codes = M := by rw [hy]; exact dCs_lst M
          have hcr : cdRow c.cells = true := isCs_row hC c (hc ▸ List.getElem_mem hk)
          have hdr : cdRow d.cells = true := by
            rw [hd]
            simp only [CD.cells, cdRow, Bool.and_eq_true] at hcr ⊢
            exact ⟨⟨hcr.1.1, hcr.1.2⟩, hLN⟩
          have hMr : ∀ g ∈ M, cdRow g.cells = true := by
            intro g hg
            rw [hM] at hg
            rcases List.mem_or_eq_of_mem_set hg with h | h
            · exact isCs_row hC g h
            · rw [h]; exact hdr
          have hyok : y.ok := by
            rw [hy]
            exact ⟨hx.recs, hx.globals, isCs_lst hMr, hx.sites⟩
          have hLl : L.length = (dNs c.ins).length := by rw [hL]; simp
          have hbM : ∀ g ∈ dCs y.codes, (dTs g.vars).length < 1000000000 ∧ (dNs g.ins).length < 1000000000 := by
            intro g hg
            rw [hyC, hM] at hg
            rcases List.mem_or_eq_of_mem_set hg with h | h
            · exact ⟨hb g h, hb2 g h⟩
            · have hcmem : c ∈ dCs x.codes := hc ▸ List.getElem_mem hk
              rw [h, hdN, hLl]
              refine ⟨?_, hb2 c hcmem⟩
              rw [hd]; exact hb c hcmem
          have e9 := right_ok 0 0 [.rows 1 7 [], .rows 1 6 []] hyok (fun g hg => (hbM g hg).1) (fun g hg => (hbM g hg).2) (by rw [hy]; exact hb3)
          have hturn := turned_eq (x := x) (y := y) (k := k) (p := p) (c := d) (i := i) (by rw [hy]) (by rw [hy]) (by rw [hy]) (by rw [hy]) hk (by rw [hyC, hM]) (by rw [hc, hd]; exact ⟨rfl, rfl, rfl, rfl, by rw [dNs_lst, hLl]⟩) (by rw [hc]; exact hp) (by rw [hdN, hc, hL]) er
          rw [hturn] at e9
          rw [hy, hc] at e9
          simp only [xAV] at e9
          have e11 := call_any (sf := s11) rfl rfl rfl known0 0 0 [.rows 1 7 [], .rows 1 6 []]
          have e12 := step_ok 0 0 (k : Int) [.rows 1 7 [], .rows 1 6 []] hx hi hno hb
          simp only [xAV, idAV] at e12
          have hfz : freezeV 0 (.mu 0 0) [.rows 0 7 ((List.map CD.cells (dCs x.codes)).set k [.int .i64 c.params, c.vars, .bool c.has, .int .i64 c.res.b, .int .i64 c.res.r, .int .i64 c.res.d, .mu 1 0]), .rows 0 6 (List.map ID.cells L)] =
              some (.lst 7 (M.map CD.cells), [.rows 1 7 [], .rows 1 6 []]) := by
            have hne : ((List.map CD.cells (dCs x.codes)).set k [.int .i64 c.params, c.vars, .bool c.has, .int .i64 c.res.b, .int .i64 c.res.r, .int .i64 c.res.d, .mu 1 0]).isEmpty = false := by
              cases e : dCs x.codes with
              | nil => rw [e] at hk; simp at hk
              | cons a l => cases k <;> rfl
            have hfl : freezeL 0 [.int .i64 c.params, c.vars, .bool c.has, .int .i64 c.res.b, .int .i64 c.res.r, .int .i64 c.res.d, .mu 1 0] [.rows 1 7 [], .rows 0 6 (List.map ID.cells L)] = some (d.cells, [.rows 1 7 [], .rows 1 6 []]) := by
              have g1 := freezeC_sl (wl := 0) (st := [.rows 1 7 [], .rows 0 6 (List.map ID.cells L)]) hTs hTv
              have g2 : (List.map ID.cells L).all AV.allPure = true := by
                rw [List.all_eq_true]
                intro r hr
                obtain ⟨j, hj, rfl⟩ := List.mem_map.1 hr
                have := hLr j hj
                simp only [ID.cells, idRow, Bool.and_eq_true] at this ⊢
                simp [AV.allPure, AV.isPure, pure_sl (isSl_I this.2)]
              have g3 : (List.map ID.cells L).isEmpty = false := by
                cases e : L with
                | nil => rw [e] at hLl; simp at hLl; omega
                | cons a l => rfl
              have g4 : (List.map ID.cells L).map AV.viewL = List.map ID.cells L := by
                rw [List.map_map]
                refine List.map_congr_left fun j hj => ?_
                have := hLr j hj
                simp only [ID.cells, idRow, Bool.and_eq_true] at this
                simp [ID.cells, AV.viewL, AV.view, view_notOwn this.1.2 (isSl_I this.2)]
              have g5 := freezeC_mu (wl := 0) (id := 1) (ver := 0) (sz := 6) (rows := List.map ID.cells L) (st := [.rows 1 7 [], .rows 0 6 (List.map ID.cells L)]) rfl g2 g3 (Nat.zero_le _) g4
              simp only [freezeL, g1, freezeC_int, freezeC_bool, g5, hd, CD.cells]
              rfl
            have hst : ∀ r ∈ List.map CD.cells (dCs x.codes), ∀ st, freezeL 0 r st = some (r, st) := by
              intro r hr st
              obtain ⟨g, hg, rfl⟩ := List.mem_map.1 hr
              have := isCs_get hC g hg
              exact freezeL_code 0 g this.1 this.2 st
            have := freezeLL_set hfl hst (k := k) (by simpa using hk)
            rw [← List.map_set, ← hM] at this
            simp [freezeV, hne, this]
          have hw1 : IntKind.i64.wrap (((dNs c.ins).length : Int) - 1) = ((dNs c.ins).length : Int) - 1 := by rw [wrap64] <;> omega
          simp [s5, xAV, idAV, hs, h1, h2, hg, eg, e2, er, f0, hk, hk', hlc, rowsL_I hi, ha, hC, CD.cells, hq, hNv, hNl, hcm, hc, hn1, hwq, hmod, hp, hr1, hr2, hID, fits, W_draw0, noBoxes, hpa, hset, ← hL]
          by_cases o16 : i.op = 16
          · have n16 : decide (i.op = 16) = true := decide_eq_true o16
            simp only [n16]
            simp
            rw [W_frzB]
            refine ⟨_, _, _, _, rfl, rfl, hfz, ?_⟩
            have he : endsT i = true := by simp [endsT, o16]
            rw [he] at e9
            cases es : stepT x k i with
            | false => simp [hs, h2, W_draw0, noBoxes, e9, e12, es, e11]
            | true =>
              by_cases pl : (p : Int) < ((dNs c.ins).length : Int) - 1
              · simp [hs, h2, W_draw0, noBoxes, e9, e12, es, e11, hw1, pl]
              · simp [hs, h2, W_draw0, noBoxes, e9, e12, es, e11, hw1, pl]
          have n16 : decide (i.op = 16) = false := decide_eq_false o16
          by_cases o17 : i.op = 17
          · have n17 : decide (i.op = 17) = true := decide_eq_true o17
            simp only [n16]
            simp [n17]
            rw [W_frzB]
            refine ⟨_, _, _, _, rfl, rfl, hfz, ?_⟩
            have he : endsT i = true := by simp [endsT, o17]
            rw [he] at e9
            cases es : stepT x k i with
            | false => simp [hs, h2, W_draw0, noBoxes, e9, e12, es, e11]
            | true =>
              by_cases pl : (p : Int) < ((dNs c.ins).length : Int) - 1
              · simp [hs, h2, W_draw0, noBoxes, e9, e12, es, e11, hw1, pl]
              · simp [hs, h2, W_draw0, noBoxes, e9, e12, es, e11, hw1, pl]
          have n17 : decide (i.op = 17) = false := decide_eq_false o17
          by_cases o18 : i.op = 18
          · have n18 : decide (i.op = 18) = true := decide_eq_true o18
            simp only [n16]
            simp [n18, n17]
            rw [W_frzB]
            refine ⟨_, _, _, _, rfl, rfl, hfz, ?_⟩
            have he : endsT i = true := by simp [endsT, o18]
            rw [he] at e9
            cases es : stepT x k i with
            | false => simp [hs, h2, W_draw0, noBoxes, e9, e12, es, e11]
            | true =>
              by_cases pl : (p : Int) < ((dNs c.ins).length : Int) - 1
              · simp [hs, h2, W_draw0, noBoxes, e9, e12, es, e11, hw1, pl]
              · simp [hs, h2, W_draw0, noBoxes, e9, e12, es, e11, hw1, pl]
          have n18 : decide (i.op = 18) = false := decide_eq_false o18
          simp only [n16]
          simp [n17, n18]
          rw [W_frzB]
          refine ⟨_, _, _, _, rfl, rfl, hfz, ?_⟩
          have he : endsT i = false := by simp [endsT, o16, o17, o18]
          rw [he] at e9
          cases es : stepT x k i with
          | false => simp [hs, h2, W_draw0, noBoxes, e9, e12, es, e11]
          | true =>
            by_cases pl : (p : Int) < ((dNs c.ins).length : Int) - 1
            · simp [hs, h2, W_draw0, noBoxes, e9, e12, es, e11, hw1, pl]
            · simp [hs, h2, W_draw0, noBoxes, e9, e12, es, e11, hw1, pl]
      · have hk' : ((dCs x.codes).length : Int) ≤ (k : Int) := by omega
        simp [s5, xAV, idAV, hs, h1, hg, eg, e2, er, f0, hk', hlc]
end U12
