/- The library of this proof, part 5: an abstract interpreter of the loaded code, and its soundness. -/
import Derived.Test.YteicnmliccdgeaaA4
import Derived.ChangeStays
import Derived.ChangeSame
import Derived.ChangeOld
import Derived.ChangeArms
import Derived.JoinedOf
import Derived.RowKit3
import Derived.ReadAgain
import Derived.Handed

/-
  Arguments that can be read as data: what stands for them.
-/
namespace Ax
open Go
variable {P : Program} {w w' : World} {G G' : Ghost}

/-- Types of bools, whole numbers, texts, and of lists and records of such. -/
def plainIn (P : Program) (ts : List TypeId) : Bool := ts.all fun t => decide (t < P.types.size) && match P.underlying t with
  | some .bool | some (.int _) | some .string => true
  | some (.slice e) => ts.contains e && decide (0 < P.cellsOf e)
  | some (.struct fs) => fs.toList.all fun f => ts.contains f.type
  | _ => false

mutual
/-- The cells of a value of a type, read as data. -/
inductive Ty (P : Program) : TypeId → List AV → Prop
  | bool {t : TypeId} (h : P.underlying t = some .bool) (b : Bool) : Ty P t [.bool b]
  | int {t : TypeId} {k : IntKind} (h : P.underlying t = some (.int k)) (n : Int) (h1 : k.min ≤ n) (h2 : n ≤ k.max) : Ty P t [.int k n]
  | str {t : TypeId} (h : P.underlying t = some .string) (l : List UInt8) (hn : l.length ≤ maxLen) : Ty P t [.str l]
  | nilSl {t e : TypeId} (h : P.underlying t = some (.slice e)) : Ty P t [.nilSl]
  | emp {t e : TypeId} (h : P.underlying t = some (.slice e)) : Ty P t [.emp]
  | lst {t e : TypeId} (h : P.underlying t = some (.slice e)) (rows : List (List AV)) (hn : rows.length ≤ maxLen) (hl : ∀ r ∈ rows, r.length = P.cellsOf e) (h2 : ∀ r ∈ rows, Ty P e r) : Ty P t [.lst (P.cellsOf e) rows]
  | recd {t : TypeId} {fs : Array Field} (h : P.underlying t = some (.struct fs)) (as : List AV) (h2 : TyFs P fs.toList as) : Ty P t as
inductive TyFs (P : Program) : List Field → List AV → Prop
  | nil : TyFs P [] []
  | cons {f : Field} {fs : List Field} {as bs : List AV} (hl : as.length = P.cellsOf f.type) (h1 : Ty P f.type as) (h2 : TyFs P fs bs) : TyFs P (f :: fs) (as ++ bs)
end

abbrev G0 : Ghost := ⟨[], fun _ => none⟩

def Plain (as : List AV) : Prop := AV.noOwnL as = true ∧ AV.allPure as = true ∧ AV.allCells as = true

theorem plain_one {a : AV} (h1 : a.noOwn = true) (h2 : a.isPure = true) (h3 : a.isCell = true) : Plain [a] := by
  refine ⟨?_, ?_, ?_⟩ <;> simp [AV.noOwnL, AV.allPure, AV.allCells, h1, h2, h3]

theorem plain_append {as bs : List AV} (h : Plain as) (k : Plain bs) : Plain (as ++ bs) := by
  obtain ⟨h1, h2, h3⟩ := h
  obtain ⟨k1, k2, k3⟩ := k
  refine ⟨(noOwnL_iff _).2 fun c hc => ?_, (allPure_iff _).2 fun c hc => ?_, ?_⟩
  · rcases List.mem_append.1 hc with h | h
    · exact (noOwnL_iff _).1 h1 c h
    · exact (noOwnL_iff _).1 k1 c h
  · rcases List.mem_append.1 hc with h | h
    · exact (allPure_iff _).1 h2 c h
    · exact (allPure_iff _).1 k2 c h
  · simp only [AV.allCells, List.all_append, Bool.and_eq_true] at *
    exact ⟨h3, k3⟩

theorem repC_one {a : AV} {v : Value} (h : RepV w G a v) : RepC w G [a] [v] := ⟨rfl, fun i c u h1 h2 => by
  cases i with
  | zero => simp at h1 h2; subst h1; subst h2; exact h
  | succ i => simp at h1⟩

theorem imm_old {b o : Nat} (h : b < w.heap.size) : Imm w G0 b o := ⟨h, fun p hp => by cases hp⟩

section
variable {H : Type} {enc : TypeId × Value → H} {ts : List TypeId}

theorem fields_ty {cs : List Value} : ∀ (fs : List Field) (o : Nat), (∀ (j : Nat) f, fs[j]? = some f → f.offset = o + ((fs.take j).map fun f => P.cellsOf f.type).sum) → cs.length = o + (fs.map fun f => P.cellsOf f.type).sum →
    (∀ f ∈ fs, ∃ as, RepC w G0 as ((cs.drop f.offset).take (P.cellsOf f.type)) ∧ Ty P f.type as ∧ Plain as) → ∃ as, RepC w G0 as (cs.drop o) ∧ TyFs P fs as ∧ Plain as
  | [], o, _, hl, _ => by
    simp at hl
    have : cs.drop o = [] := List.drop_eq_nil_of_le (by omega)
    rw [this]
    exact ⟨[], ⟨rfl, fun i c v h => by simp at h⟩, .nil, rfl, rfl, rfl⟩
  | f :: fs, o, ho, hl, hf => by
    have e0 : f.offset = o := by have := ho 0 f rfl; simpa using this
    simp only [List.map_cons, List.sum_cons] at hl
    obtain ⟨bs, h1, h2, h3⟩ := fields_ty fs (o + P.cellsOf f.type) (fun j g hg => by
      have := ho (j + 1) g (by simpa using hg)
      simp only [List.take_succ_cons, List.map_cons, List.sum_cons] at this
      omega) (by omega) (fun g hg => hf g (by simp [hg]))
    obtain ⟨as, k1, k2, k3⟩ := hf f (by simp)
    rw [e0] at k1
    have hlen : as.length = P.cellsOf f.type := by
      rw [k1.1, List.length_take, List.length_drop]; omega
    refine ⟨as ++ bs, ?_, .cons hlen k2 h2, plain_append k3 h3⟩
    have : cs.drop o = (cs.drop o).take (P.cellsOf f.type) ++ cs.drop (o + P.cellsOf f.type) := by
      rw [← List.drop_drop, List.take_append_drop]
    rw [this]
    exact RepC.append k1 h1

theorem trod_ty (hK : Kids P (· < P.types.size)) (hp : plainIn P ts = true) : ∀ (n : Nat) (t : TypeId) (cs : List Value) (x : DataW H × List MemPlace), t ∈ ts → DataW.trod enc P w 0 (fun _ => true) true n t cs = some x →
    ∃ as, RepC w G0 as cs ∧ Ty P t as ∧ Plain as := by
  intro n
  induction n with
  | zero => intro t cs x _ h; simp [DataW.trod] at h
  | succ n ih =>
    intro t cs x ht h
    have hpt := List.all_eq_true.1 hp t ht
    simp only [Bool.and_eq_true, decide_eq_true_eq] at hpt
    obtain ⟨hlt, hpt⟩ := hpt
    split at hpt
    · rename_i hu
      obtain ⟨b, rfl, rfl⟩ := DataW.trod_bool hu h
      exact ⟨[.bool b], repC_one (.bool b), .bool hu b, plain_one rfl rfl rfl⟩
    · rename_i k hu
      obtain ⟨m, rfl, rfl, hw⟩ := DataW.trod_int hu h
      simp only [Lit.wf, Bool.and_eq_true, decide_eq_true_eq] at hw
      exact ⟨[.int k m], repC_one (.int k m), .int hu m hw.1 hw.2, plain_one rfl rfl rfl⟩
    · rename_i hu
      obtain ⟨s, rfl, rfl, hsl⟩ := DataW.trod_string hu h
      exact ⟨[.str s.data.toList], repC_one (.str _ s rfl), .str hu _ (by simpa using hsl), plain_one rfl rfl rfl⟩
    · rename_i e hu
      simp only [Bool.and_eq_true, List.contains_eq_mem, decide_eq_true_eq] at hpt
      obtain ⟨he, hsz⟩ := hpt
      rcases DataW.trod_slice hu h with ⟨rfl, rfl⟩ | ⟨a, len, cap, elems, rest, m, hm, rfl, rfl, _, hlc, hcm, hel, helem, hrest, _⟩
      · exact ⟨[.nilSl], repC_one .nilSl, .nilSl hu, plain_one rfl rfl rfl⟩
      · cases hm
        by_cases hcap : cap = 0
        · subst hcap
          have : len = 0 := by omega
          subst this
          exact ⟨[.emp], repC_one (.emp a), .emp hu, plain_one rfl rfl rfl⟩
        · have hrow : ∀ i, i < cap → ∃ cs' y, w.cells? 0 (a.add (i * P.cellsOf e)) (P.cellsOf e) = some cs' ∧ DataW.trod enc P w 0 (fun _ => true) true n e cs' = some y := by
            intro i hi
            by_cases hil : i < len
            · have h1 := helem i hil
              have h2 : ∃ y, elems[i]? = some y := ⟨_, List.getElem?_eq_getElem (by omega)⟩
              obtain ⟨y, hy⟩ := h2
              rw [hy, Option.bind_eq_some_iff] at h1
              obtain ⟨cs', e1, e2⟩ := h1
              exact ⟨cs', y, e1, e2⟩
            · obtain ⟨hrl, hr⟩ := hrest rfl
              have h1 := hr (i - len) (by omega)
              rw [show len + (i - len) = i by omega] at h1
              have h2 : ∃ y, rest[i - len]? = some y := ⟨_, List.getElem?_eq_getElem (by omega)⟩
              obtain ⟨y, hy⟩ := h2
              rw [hy, Option.bind_eq_some_iff] at h1
              obtain ⟨cs', e1, e2⟩ := h1
              exact ⟨cs', y, e1, e2⟩
          have hspot : a.spot = none := by
            obtain ⟨cs', y, e1, _⟩ := hrow 0 (by omega)
            obtain ⟨_, g2, g3⟩ := World.cells?_some e1
            have h0 := g3 0 hsz
            have : ∃ v, cs'[0]? = some v := ⟨_, List.getElem?_eq_getElem (by omega)⟩
            obtain ⟨v, hv⟩ := this
            rw [hv] at h0
            have := World.cell?_spot h0
            simpa [Addr.add] using this
          obtain ⟨blk, off, spot⟩ := a
          simp only at hspot
          subst hspot
          have hadd : ∀ off k, Addr.add ⟨blk, off, none⟩ k = ⟨blk, off + k, none⟩ := fun off k => by
            unfold Addr.add
            split
            · rename_i h0; subst h0; rfl
            · rfl
          -- the rows
          have hrows : ∀ i, i < len → ∃ r, (r.length = P.cellsOf e ∧ Ty P e r ∧ Plain r) ∧ ∀ (j : Nat) c, r[j]? = some c → ∃ v, w.cell? ⟨blk, off + (i * P.cellsOf e + j), none⟩ = some v ∧ RepV w G0 c v := by
            intro i hi
            obtain ⟨cs', y, e1, e2⟩ := hrow i (by omega)
            obtain ⟨_, g2, g3⟩ := World.cells?_some e1
            obtain ⟨r, r1, r2, r3⟩ := ih e cs' y he e2
            have hrl : r.length = P.cellsOf e := by rw [r1.1, g2]
            refine ⟨r, ⟨hrl, r2, r3⟩, fun j c hc => ?_⟩
            have hj : j < P.cellsOf e := by rw [← hrl]; exact (List.getElem?_eq_some_iff.1 hc).1
            have h0 := g3 j hj
            have hv : ∃ v, cs'[j]? = some v := ⟨_, List.getElem?_eq_getElem (by omega)⟩
            obtain ⟨v, hv⟩ := hv
            rw [hv, hadd, hadd] at h0
            refine ⟨v, by rw [← h0]; congr 2; omega, r1.2 j c v hc hv⟩
          have key : ∀ m, m ≤ len → ∃ rows : List (List AV), rows.length = m ∧ ∀ (i : Nat) r, rows[i]? = some r → (r.length = P.cellsOf e ∧ Ty P e r ∧ Plain r) ∧ ∀ (j : Nat) c, r[j]? = some c → ∃ v, w.cell? ⟨blk, off + (i * P.cellsOf e + j), none⟩ = some v ∧ RepV w G0 c v := by
            intro m
            induction m with
            | zero => intro _; exact ⟨[], rfl, fun i r h => by simp at h⟩
            | succ m ihm =>
              intro hm
              obtain ⟨rows, l1, l2⟩ := ihm (by omega)
              obtain ⟨r, hr⟩ := hrows m (by omega)
              refine ⟨rows ++ [r], by simp [l1], fun i r' hi => ?_⟩
              by_cases him : i < m
              · rw [List.getElem?_append_left (by omega)] at hi
                exact l2 i r' hi
              · rw [List.getElem?_append_right (by omega)] at hi
                have : i - rows.length = 0 := by
                  rcases Nat.eq_zero_or_pos (i - rows.length) with h | h
                  · exact h
                  · rw [List.getElem?_eq_none (by simp; omega)] at hi; cases hi
                rw [this] at hi
                simp at hi
                subst hi
                have : i = m := by omega
                subst this
                exact hr
          obtain ⟨rows, l1, l2⟩ := key len (Nat.le_refl _)
          have hmem : ∀ r ∈ rows, r.length = P.cellsOf e ∧ Ty P e r ∧ Plain r := fun r hr => by
            obtain ⟨i, hi, rfl⟩ := List.mem_iff_getElem.1 hr
            exact (l2 i _ (List.getElem?_eq_getElem hi)).1
          have hrep : RepV w G0 (.lst (P.cellsOf e) rows) (.slice (some ⟨blk, off, none⟩) rows.length cap) := by
            refine .lst (P.cellsOf e) rows ⟨blk, off, none⟩ cap rfl (by omega) ?_ (fun r hr => (hmem r hr).2.2.1) (fun r hr => (hmem r hr).2.2.2.1) (fun r hr => (hmem r hr).2.2.2.2) (fun i r j c h1 h2 => ?_) (fun i r j c v h1 h2 h3 => ?_)
            · simp only [fits, List.all_eq_true, beq_iff_eq]
              exact fun r hr => (hmem r hr).1
            · obtain ⟨v, e1, _⟩ := (l2 i r h1).2 j c h2
              exact ⟨imm_old (World.block_lt_of_cell? w ⟨blk, off + (i * P.cellsOf e + j), none⟩ e1 : blk < w.heap.size), v, e1⟩
            · obtain ⟨v', e1, e2⟩ := (l2 i r h1).2 j c h2
              rw [e1] at h3; cases h3
              exact e2
          rw [l1] at hrep
          exact ⟨[.lst (P.cellsOf e) rows], repC_one hrep, (.lst hu rows (by omega) (fun r hr => (hmem r hr).1) (fun r hr => (hmem r hr).2.1)), plain_one rfl rfl rfl⟩
    · rename_i fs hu
      simp only [List.all_eq_true, List.contains_eq_mem, decide_eq_true_eq] at hpt
      obtain ⟨xs, m, hm, rfl, hl, hlen, hf⟩ := DataW.trod_struct hu h
      cases hm
      obtain ⟨_, k2, k3⟩ := hK.struct hlt hu
      obtain ⟨as, h1, h2, h3⟩ := fields_ty (P := P) (w := w) (cs := cs) fs.toList 0 (fun j f hf => by rw [k3 j f hf]; omega) (by rw [hl, k2]; omega) fun f hfm => by
        obtain ⟨i, hi, rfl⟩ := List.mem_iff_getElem.1 hfm
        have hg : fs.toList[i]? = some fs.toList[i] := List.getElem?_eq_getElem hi
        have h1 := hf i fs.toList[i] (by simp)
        have hy : ∃ y, xs[i]? = some y := ⟨_, List.getElem?_eq_getElem (by rw [hlen]; simpa using hi)⟩
        obtain ⟨y, hy⟩ := hy
        rw [hy] at h1
        exact ih _ _ y (hpt _ hfm) h1
      exact ⟨as, by simpa using h1, .recd hu as h2, h3⟩
    · cases hpt

/-- A parameter's value. -/
def TyV (P : Program) (t : TypeId) (a : AV) : Prop := (∃ fs as, P.underlying t = some (.struct fs) ∧ a = .agg as ∧ Ty P t as) ∨ ((∀ fs, P.underlying t ≠ some (.struct fs)) ∧ Ty P t [a])

def TyVs (P : Program) : List TypeId → List AV → Prop
  | [], [] => True
  | t :: ts, a :: as => TyV P t a ∧ TyVs P ts as
  | _, _ => False

theorem trod_val (hK : Kids P (· < P.types.size)) (hp : plainIn P ts = true) {r : Reach} {base : Nat} {t : TypeId} {v : Value} {d : DataW H} {ps : List MemPlace} (ht : t ∈ ts) (hval : Value.okWide P w r base t v)
    (h : DataW.Trod enc P w 0 (fun _ => true) true t v d ps) : ∃ a, RepV w G0 a v ∧ TyV P t a ∧ a.noOwn = true := by
  obtain ⟨n, hn⟩ := h
  obtain ⟨as, h1, h2, h3⟩ := trod_ty hK hp n t _ _ ht hn
  have one : v.cells = #[v] → (∀ fs, P.underlying t ≠ some (.struct fs)) → ∃ a, RepV w G0 a v ∧ TyV P t a ∧ a.noOwn = true := by
    intro hc hs
    rw [hc] at h1
    obtain ⟨e1, e2⟩ := h1
    match as, e1, e2, h2, h3 with
    | [a], _, e2, h2, h3 => exact ⟨a, e2 0 a v rfl rfl, .inr ⟨hs, h2⟩, by have := h3.1; simpa [AV.noOwnL] using this⟩
  have hpt := List.all_eq_true.1 hp t ht
  simp only [Bool.and_eq_true, decide_eq_true_eq] at hpt
  obtain ⟨_, hpt⟩ := hpt
  split at hpt
  · rename_i hu
    obtain ⟨b, rfl⟩ := WideShapes.okWide_bool hu hval
    exact one rfl fun fs h => by rw [hu] at h; cases h
  · rename_i k hu
    obtain ⟨b, rfl⟩ := WideShapes.okWide_int hu hval
    exact one rfl fun fs h => by rw [hu] at h; cases h
  · rename_i hu
    obtain ⟨b, rfl⟩ := WideShapes.okWide_string hu hval
    exact one rfl fun fs h => by rw [hu] at h; cases h
  · rename_i e hu
    obtain ⟨a, l, c, rfl⟩ := WideShapes.okWide_slice hu hval
    exact one rfl fun fs h => by rw [hu] at h; cases h
  · rename_i fs hu
    obtain ⟨cs, rfl, _⟩ := WideShapes.okWide_struct hu hval
    refine ⟨.agg as, .agg as cs (by simpa [Value.cells] using h1.1) fun i c v e1 e2 => h1.2 i c v e1 (by simpa [Value.cells] using e2), .inl ⟨fs, as, hu, rfl, h2⟩, ?_⟩
    simp only [AV.noOwn]; exact h3.1
  · cases hpt

theorem trod_vals (hK : Kids P (· < P.types.size)) (hp : plainIn P ts = true) {r : Reach} {base : Nat} : ∀ {us : List TypeId} {vs : List Value} {ds : List (DataW H)} {ps : List MemPlace}, (∀ t ∈ us, t ∈ ts) →
    (∀ (j : Nat) t v, us[j]? = some t → vs[j]? = some v → Value.okWide P w r base t v) → DataW.TrodAll enc P w 0 (fun _ => true) true us vs ds ps → ∃ as, RepC w G0 as vs ∧ TyVs P us as ∧ AV.noOwnL as = true
  | [], [], [], _, _, _, _ => ⟨[], ⟨rfl, fun i c v h => by simp at h⟩, trivial, rfl⟩
  | t :: us, v :: vs, d :: ds, ps, hu, hv, h => by
    obtain ⟨p, q, h1, h2, rfl⟩ := h
    obtain ⟨a, a1, a2, a3⟩ := trod_val hK hp (hu t (by simp)) (hv 0 t v rfl rfl) h1
    obtain ⟨as, b1, b2, b3⟩ := trod_vals hK hp (fun t ht => hu t (by simp [ht])) (fun j t v e1 e2 => hv (j + 1) t v (by simpa using e1) (by simpa using e2)) h2
    exact ⟨a :: as, RepC.cons a1 b1, ⟨a2, b2⟩, by simp [AV.noOwnL, a3, b3]⟩
  | [], _ :: _, _, _, _, _, h => h.elim
  | [], [], _ :: _, _, _, _, h => h.elim
  | _ :: _, [], _, _, _, _, h => h.elim
  | _ :: _, _ :: _, [], _, _, _, h => h.elim

theorem trodAll_stays (hK : Kids P (· < P.types.size)) (hz : ∀ t e, t < P.types.size → P.underlying t = some (.slice e) → 0 < P.cellsOf e) {sp : Nat → Bool} (hsame : ∀ b, b < w.heap.size → w'.heap[b]? = w.heap[b]?) : ∀ {us : List TypeId} {vs : List Value} {ds : List (DataW H)} {ps : List MemPlace}, (∀ t ∈ us, t < P.types.size) →
    DataW.TrodAll enc P w 0 (fun _ => true) true us vs ds ps → (∀ p ∈ ps, sp p.block = true) → DataW.TrodAll enc P w' 0 sp true us vs ds ps
  | [], [], [], _, _, h, _ => h
  | t :: us, v :: vs, d :: ds, ps, hu, h, hs => by
    obtain ⟨p, q, ⟨n, h1⟩, h2, rfl⟩ := h
    refine ⟨p, q, ⟨n, DataW.trod_stays hK (fun {t e} => hz t e) (fun h => by cases h) (hu t (by simp)) h1 (fun x hx => ?_) fun x hx => hs x (by simp [hx])⟩, trodAll_stays hK hz hsame (fun t ht => hu t (by simp [ht])) h2 (fun x hx => hs x (by simp [hx])), rfl⟩
    have hlt := DataW.trod_lt n t _ _ h1 x hx
    cases x with
    | cell b off => simp only [World.sameAt, World.cell?, hsame b hlt]
    | map b => exact hsame b hlt
  | [], _ :: _, _, _, _, h, _ => h.elim
  | [], [], _ :: _, _, _, h, _ => h.elim
  | _ :: _, [], _, _, _, h, _ => h.elim
  | _ :: _, _ :: _, [], _, _, h, _ => h.elim

theorem inv_none (w : World) : Inv w G0 [] := ⟨rfl, fun id ob loc h => by simp at h, fun b p h => by cases h⟩

theorem keptBut_same {may : MemPlace → Prop} (h1 : w'.os = w.os) (h2 : w'.output = w.output) (h3 : ∀ b, b < w.heap.size → w'.heap[b]? = w.heap[b]?) : w.keptBut w' may := by
  refine ⟨h1, h2, fun i hi => ?_⟩
  rw [h3 i hi]
  have := Array.getElem?_eq_getElem hi
  rw [this]
  cases w.heap[i] with
  | cells c t fr => exact ⟨rfl, rfl, rfl, fun _ _ => rfl⟩
  | map es clock => exact .inr ⟨rfl, rfl⟩
  | _ => rfl

theorem frozen_same (_hsz : w.heap.size ≤ w'.heap.size) (h3 : ∀ b, b < w.heap.size → w'.heap[b]? = w.heap[b]?) (a : Addr) (ha : a.block < w.heap.size) : w'.frozen? a = w.frozen? a := by
  simp only [World.frozen?, h3 a.block ha]
end
end Ax

/-
  A law's row: the interpreter answers true, so the program does, whatever the input.
-/
namespace Ax
open Go Go.ChangeShapes
variable {P : Program} {w w' : World} {G G' : Ghost} {H : Type} {enc : TypeId × Value → H}

theorem post_law {f : Func} {s : ChangeSpec} {apart fresh handsOn again : Bool} {W W' : World} {args : Array Value} {ds gs : List (DataW H)} {before : List MemPlace} {tb : TypeId}
    (hK : Kids P (· < P.types.size)) (hz : ∀ t e, t < P.types.size → P.underlying t = some (.slice e) → 0 < P.cellsOf e) (hpar : ∀ t ∈ f.params.toList, t < P.types.size)
    (hW : DataW.Whole enc P f.params.toList s.vars apart W args.toList ds gs before) (hv : s.vars = []) (hrt : f.resultTypes = #[tb]) (htb : P.underlying tb = some .bool)
    (hr : (s.fn H ds).results = [.lit (.bool true)]) (ha : (s.fn H ds).args = ds) (hvs : (s.fn H ds).vars = [])
    (h1 : W'.os = W.os) (h2 : W'.output = W.output) (h4 : W.heap.size ≤ W'.heap.size) (h3 : ∀ b, b < W.heap.size → W'.heap[b]? = W.heap[b]?) :
    s.post enc P f apart fresh handsOn again W args (.bool true) W' := by
  have hW' := hW
  obtain ⟨p, q, hA, hV, rfl, hz', hn⟩ := hW'
  rw [hv] at hV
  cases gs with
  | cons _ _ => exact hV.elim
  | nil =>
    have hq : q = [] := hV
    subst hq
    simp only [List.append_nil] at hW hz' hn
    have hst : ∀ sp : Nat → Bool, (∀ x ∈ p, sp x.block = true) → DataW.TrodAll enc P W' 0 sp true f.params.toList args.toList ds p := fun sp hsp => trodAll_stays hK hz h3 hpar hA hsp
    have hfr : ∀ x ∈ p, x.block < W.heap.size := DataW.TrodAll.lt hA
    have hold : ∀ x ∈ p, (fun b => decide (b < W.heap.size)) x.block = true := fun x hx => by simpa using hfr x hx
    have hrl : (Value.bool true).resultList f.resultTypes.size = [.bool true] := by rw [hrt]; rfl
    have hres : ∀ (b : Nat) (sp : Nat → Bool) (hd : Bool), DataW.TrodAll enc P W' b sp hd f.resultTypes.toList ((Value.bool true).resultList f.resultTypes.size) (s.fn H (ds ++ [])).results [] := fun b sp hd => by
      rw [List.append_nil, hr, hrl, hrt]
      exact ⟨[], [], ⟨1, by simp [DataW.trod, htb, Value.cells]⟩, rfl, rfl⟩
    refine ⟨ds, [], p, [], p, [], hW, hres _ _ _, by rw [List.append_nil, ha]; exact hst _ hold, by rw [hv, List.append_nil, hvs]; rfl, keptBut_same h1 h2 h3, fun _ => ?_⟩
    refine ⟨fun j t r e1 e2 => ?_, [DataW.lit (.bool true)] ++ ds, [], p, ⟨p, [], ?_, (by rw [hv]; exact (rfl : DataW.TrodVars enc P W' (fun _ => true) [] [] [])), by simp, ?_, ?_⟩, ?_⟩
    · rw [hrt] at e1
      rw [hrl] at e2
      cases j with
      | zero =>
        simp at e1 e2
        subst e1; subst e2
        exact RowKit.okWide_bool_mk htb true
      | succ j => simp at e1
    · have := trodAll_append (hst _ (fun _ _ => rfl)) (hres 0 (fun _ => true) true)
      simpa [hr] using this
    · intro b off hp
      rw [frozen_same h4 h3 _ (hfr _ hp)]
      exact hz' b off hp
    · exact hn
    · intro x hx _; exact hx

theorem orcL_sound {S : Nat → Option SFunc} (hT : MTab S P) : SoundCall S P (orcL S) := fun wl lim f args st v st' h => by
  obtain ⟨n, hn⟩ := (orcL_sup S).call _ _ _ _ _ _ h
  exact (orc_sound hT n).1 wl lim f args st v st' hn

/-- The call of a law that the interpreter answers with true. -/
theorem law_calls {S : Nat → Option SFunc} (hT : MTab S P) {f : FuncId} (hf : f < 100000) {as : List AV} {st' : Store} (hc : (orcL S).call 0 0 f as [] = some (.bool true, st')) {W : World} {args : Array Value} (hR : RepC W G0 as args.toList) (hno : AV.noOwnL as = true) :
    Calls P f args W fun e W' => e = .returned (.bool true) ∧ W'.os = W.os ∧ W'.output = W.output ∧ W.heap.size ≤ W'.heap.size ∧ ∀ b, b < W.heap.size → W'.heap[b]? = W.heap[b]? := by
  obtain ⟨sf, h1, h2, h3, h4⟩ := orcL_sound hT _ _ _ _ _ _ _ hc
  have hz : ∀ b, cntL b as args.toList + cntS b G0.ls [] = 0 := fun b => by rw [cntL_noOwn b _ _ hno]; simp [cntS]
  have := h4 W G0 args.toList hR (inv_none W) (fun b => by rw [hz b]; omega)
  rw [h3 hf] at this
  refine this.mono fun e W' h => ?_
  obtain ⟨u, G', rfl, r1, r2, r3⟩ := h
  refine ⟨by rw [RepV.bool_inv r1], r3.os, r3.out, r3.size, fun b hb => (r3.far b hb (hz b)).2⟩

/-- All that a program's law needs of its program. -/
structure Home (S : Nat → Option SFunc) (C : Checked) (ts : List TypeId) : Prop where
  own : ownKnob C.prog.godebug = none
  tab : MTab S C.prog
  kids : Kids C.prog (· < C.prog.types.size)
  full : ∀ t e, t < C.prog.types.size → C.prog.underlying t = some (.slice e) → 0 < C.prog.cellsOf e
  plain : plainIn C.prog ts = true

theorem law_lifted {S : Nat → Option SFunc} {C : Checked} {ts : List TypeId} (hh : Home S C ts) {os : Os} (started : os.Started) {f : FuncId} {fn : Func} {s : ChangeSpec} {conds : List PathCond} {apart fresh handsOn again : Bool} {tb : TypeId}
    (noInit : C.prog.inits.idxOf? f = none) (hfn : C.prog.funcs[f]? = some fn) (hf : f < 100000)
    (witness : ∃ (w : World) (tape : Tape) (i : Input), w.os = os ∧ (w.forCall tape i).Shaped C.prog ∧ i.vars = [] ∧ Input.okWide C.prog (w.forCall tape i) .any w.heap.size f i ∧
      s.pre6 enc C.prog fn conds apart (w.forCall tape i).memory i.args ∧ ({} : Assume).holds C.prog (lone (Frame.enter C.prog f i.args .normal) [] (w.forCall tape i)))
    (hpar : (fn.params.toList.all fun t => ts.contains t && decide (t < C.prog.types.size)) = true) (hv : s.vars = []) (hrt : fn.resultTypes = #[tb]) (htb : C.prog.underlying tb = some .bool)
    (hspec : ∀ ds : List (DataW H), ds.length = fn.params.toList.length → (s.fn H ds).results = [.lit (.bool true)] ∧ (s.fn H ds).args = ds ∧ (s.fn H ds).vars = [])
    (hcall : ∀ as, TyVs C.prog fn.params.toList as → ∃ st', (orcL S).call 0 0 f as [] = some (.bool true, st')) :
    ReturnsInHanded {} C os f .any (s.pre6 enc C.prog fn conds apart) (s.post enc C.prog fn apart fresh handsOn again) := by
  refine returnsInHanded_of_change hh.own started noInit hfn witness ?_
  intro W base args ds gs before hval hW _ _
  have hp : ∀ t ∈ fn.params.toList, t ∈ ts ∧ t < C.prog.types.size := fun t ht => by
    have := List.all_eq_true.1 hpar t ht
    simpa using this
  obtain ⟨p, q, hA, hV, hb, _, _⟩ := id hW
  obtain ⟨as, a1, a2, a3⟩ := trod_vals hh.kids hh.plain (fun t ht => (hp t ht).1) (fun j t v e1 e2 => hval j t v (by simpa using e1) (by simpa using e2)) hA
  obtain ⟨st', hc⟩ := hcall as a2
  have hlen : ∀ (us : List TypeId) (vs : List Value) (ds : List (DataW H)) (p : List MemPlace), DataW.TrodAll enc C.prog W 0 (fun _ => true) true us vs ds p → ds.length = us.length := by
    intro us
    induction us with
    | nil => intro vs ds p h; cases vs with
      | nil => cases ds with
        | nil => rfl
        | cons _ _ => exact h.elim
      | cons _ _ => cases ds <;> exact h.elim
    | cons t us ih => intro vs ds p h; cases vs with
      | nil => cases ds <;> exact h.elim
      | cons v vs => cases ds with
        | nil => exact h.elim
        | cons d ds =>
          obtain ⟨_, _, _, h2, _⟩ := h
          simp [ih vs ds _ h2]
  obtain ⟨s1, s2, s3⟩ := hspec ds (hlen _ _ _ _ hA)
  refine (law_calls hh.tab hf hc a1 a3).mono fun e W' h => ?_
  obtain ⟨rfl, h1, h2, h3, h4⟩ := h
  exact ⟨_, rfl, post_law hh.kids hh.full (fun t ht => (hp t ht).2) hW hv hrt htb s1 s2 s3 h1 h2 h3 h4⟩

end Ax
namespace Ax
open Go

def tabFrom (S : Nat → Option SFunc) (P : Program) : Nat → List (Option SFunc) → Bool
  | _, [] => true
  | k, none :: l => tabFrom S P (k + 1) l
  | k, some sf :: l => mFunc S P sf && (decide (100000 ≤ k) || sf.fid == k) && tabFrom S P (k + 1) l

theorem tabFrom_ok {S : Nat → Option SFunc} {P : Program} : ∀ {l : List (Option SFunc)} {k : Nat}, tabFrom S P k l = true → ∀ (i : Nat) sf, l[i]? = some (some sf) → mFunc S P sf = true ∧ (k + i < 100000 → sf.fid = k + i)
  | [], _, _, i, sf, h => by simp at h
  | none :: l, k, h, i, sf, hi => by
    cases i with
    | zero => simp at hi
    | succ i =>
      have := tabFrom_ok (l := l) (k := k + 1) h i sf (by simpa using hi)
      rw [show k + 1 + i = k + (i + 1) by omega] at this
      exact this
  | some s :: l, k, h, i, sf, hi => by
    simp only [tabFrom, Bool.and_eq_true, Bool.or_eq_true, decide_eq_true_eq, beq_iff_eq] at h
    obtain ⟨⟨h1, h2⟩, h3⟩ := h
    cases i with
    | zero =>
      simp at hi
      subst hi
      exact ⟨h1, fun hk => by omega⟩
    | succ i =>
      have := tabFrom_ok (l := l) (k := k + 1) h3 i sf (by simpa using hi)
      rw [show k + 1 + i = k + (i + 1) by omega] at this
      exact this

theorem mtab_of {tbl vtbl : List (Option SFunc)} {P : Program} (h1 : tabFrom (tabS tbl vtbl) P 0 tbl = true) (h2 : tabFrom (tabS tbl vtbl) P 100000 vtbl = true) : MTab (tabS tbl vtbl) P := by
  intro f sf hf
  unfold tabS at hf
  split at hf
  · cases hg : tbl[f]? with
    | none => rw [hg] at hf; cases hf
    | some x =>
      rw [hg] at hf
      simp only [Option.getD_some] at hf
      subst hf
      have := tabFrom_ok h1 f sf hg
      exact ⟨this.1, fun h => by have := this.2 (by omega); omega⟩
  · rename_i hlt
    cases hg : vtbl[f - 100000]? with
    | none => rw [hg] at hf; cases hf
    | some x =>
      rw [hg] at hf
      simp only [Option.getD_some] at hf
      subst hf
      have := tabFrom_ok h2 (f - 100000) sf hg
      exact ⟨this.1, fun h => absurd h hlt⟩
end Ax
