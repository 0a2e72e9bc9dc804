/- Part of a proof. -/
import Derived.Test.YteicnmliccdgeaaCode
import Derived.Test.YteicnmliccdgeaaA6
import Derived.KernelRfl

namespace U22
open Ax Go Code22
set_option maxRecDepth 100000

theorem below_ok (wl lim : Nat) (v n : Int) (st : Store) : (orcL S).call wl lim 22 [.int .i64 v, .int .i64 n] st = some (.bool (decide (0 ≤ v) && decide (v < n)), st) := by
  refine call_pure (sf := s22) rfl rfl (by simp [*]) rfl (by simp [*]) ?_
  by_cases h1 : 0 ≤ v <;> simp [s22, h1]

theorem isClass_ok (wl lim : Nat) (f : AV) (c : Int) (st : Store) (hf : isSl f = true) : (orcL S).call wl lim 21 [f, .int .i64 c] st = some (.bool (decide (0 ≤ c) && decide (c < (rowsL f).length)), st) := by
  refine call_pure (sf := s21) rfl rfl (by simp [*]) rfl (by simp [*]) ?_
  by_cases h1 : 0 ≤ c <;> simp [s21, h1, hf]

theorem in_ok (wl lim : Nat) (l : AV) (v : Int) (st : Store) (hl : isI l = true) (hn : (dI l).length < 1000000000000) :
   (orcL S).call wl lim 17 [l, .int .i64 v] st = some (.bool (decide (v ∈ dI l)), st) := by
  refine call_pure (sf := s17) rfl rfl (by simp [*]) rfl (by simp [*]) ?_
  simp [s17]
  refine W_loopI s17_l0.eq_1 (fun i : Nat => ⟨[(0, .val l), (1, .val (.int .i64 v)), (5, .val (.int .i64 i))], [], []⟩) (fun i => i ≤ (dI l).length ∧ ∀ k, k < i → (dI l)[k]? ≠ some v) (fun i => (dI l).length - i) 0 rfl ⟨by omega, fun k h => by omega⟩ ?_
  intro i ⟨hi, hk⟩ ih
  by_cases hlt : i < (dI l).length
  · have hw : IntKind.i64.wrap ((i : Int) + 1) = ((i + 1 : Nat) : Int) := by rw [wrap64] <;> omega
    by_cases hv : (dI l)[i] = v
    · simp [hl, rowsL_I hl, hlt, hv]
      simp [← hv]
    · simp [hl, rowsL_I hl, hlt, hv, hw]
      refine ih (i + 1) ⟨by omega, fun k hk' => ?_⟩ (by omega)
      rcases Nat.lt_or_ge k i with h | h
      · exact hk k h
      · have : k = i := by omega
        subst this
        simp [hlt, hv]
  · simp [hl, rowsL_I hl, show i = (dI l).length by omega]
    intro hm
    obtain ⟨k, hk1, hk2⟩ := List.mem_iff_getElem.1 hm
    exact hk k (by omega) (by simp [hk1, hk2])

theorem ints_ok (wl lim : Nat) (a b : AV) (st : Store) (ha : isI a = true) (hb : isI b = true) (hn : (dI a).length < 1000000000000) :
   (orcL S).call wl lim 9 [a, b] st = some (.bool (decide (dI a = dI b)), st) := by
  refine call_pure (sf := s9) rfl rfl (by simp [*]) rfl (by simp [*]) ?_
  by_cases hab : (dI a).length = (dI b).length
  · simp [s9, ha, hb, rowsL_I ha, rowsL_I hb, hab]
    refine W_loopI s9_l0.eq_1 (fun i : Nat => ⟨[(0, .val a), (1, .val b), (5, .val (.int .i64 i))], [], []⟩) (fun i => i ≤ (dI a).length ∧ ∀ k, k < i → (dI a)[k]? = (dI b)[k]?) (fun i => (dI a).length - i) 0 rfl ⟨by omega, fun k h => by omega⟩ ?_
    intro i ⟨hi, hk⟩ ih
    by_cases hlt : i < (dI a).length
    · have hw : IntKind.i64.wrap ((i : Int) + 1) = ((i + 1 : Nat) : Int) := by rw [wrap64] <;> omega
      have hlt' : i < (dI b).length := by omega
      rw [W_seq]
      by_cases hv : (dI a)[i] = (dI b)[i]
      · simp [ha, hb, rowsL_I ha, rowsL_I hb, hlt, hlt', hv, hw, W_draw0, noBoxes]
        refine ih (i + 1) ⟨by omega, fun k hk' => ?_⟩ (by omega)
        rcases Nat.lt_or_ge k i with h | h
        · exact hk k h
        · have : k = i := by omega
          subst this
          simp [hlt, hlt', hv]
      · simp [ha, hb, rowsL_I ha, rowsL_I hb, hlt, hlt', hv, W_draw0, noBoxes]
        intro h
        apply hv
        simp [h]
    · simp [ha, rowsL_I ha, show i = (dI a).length by omega]
      apply List.ext_getElem?
      intro k
      by_cases hk' : k < i
      · exact hk k hk'
      · rw [List.getElem?_eq_none (by omega), List.getElem?_eq_none (by omega)]
  · have : dI a ≠ dI b := fun h => hab (by rw [h])
    simp [s9, ha, hb, rowsL_I ha, rowsL_I hb, hab, this]


/-! ### Lists of truths, lists of places -/

/-- The places below i at which m holds. -/
def idxs (m : List Bool) : Nat → List Int
  | 0 => []
  | i + 1 => idxs m i ++ (if m.getD i false then [(i : Int)] else [])

theorem idxs_len (m : List Bool) : ∀ i, (idxs m i).length ≤ i
  | 0 => by simp [idxs]
  | i + 1 => by
    have := idxs_len m i
    simp only [idxs, List.length_append]
    split <;> simp <;> omega

theorem mem_idxs (m : List Bool) : ∀ (i : Nat) (v : Int), v ∈ idxs m i ↔ ∃ c : Nat, v = c ∧ c < i ∧ m.getD c false = true
  | 0, v => by simp [idxs]
  | i + 1, v => by
    simp only [idxs, List.mem_append, mem_idxs m i v]
    constructor
    · rintro (⟨c, h1, h2, h3⟩ | h)
      · exact ⟨c, h1, by omega, h3⟩
      · split at h
        · rename_i hm
          simp at h
          exact ⟨i, h, by omega, hm⟩
        · simp at h
    · rintro ⟨c, h1, h2, h3⟩
      by_cases hc : c = i
      · subst hc
        right
        rw [if_pos h3]
        simp [h1]
      · exact .inl ⟨c, h1, by omega, h3⟩

theorem list_ok (wl lim : Nat) (id ver : Nat) (m : List Bool) (st : Store) (hs : st[id]? = some (.rows ver 1 (bools m))) (hn : m.length < 1000000000) :
   (orcL S).call wl lim 23 [.mu id ver] st = some (mkL 1 (ints (idxs m m.length)), st) := by
  refine call_run (sf := s23) rfl rfl rfl ?_
  simp [s23]
  refine W_loopI s23_l0.eq_1 (fun i : Nat => ⟨[(0, .val (.mu id ver)), (3, .val (mkL 1 (ints (idxs m i)))), (4, .val (.int .i64 i))], [], st⟩) (fun i => i ≤ m.length) (fun i => m.length - i) 0 rfl (by omega) ?_
  intro i hi ih
  by_cases hlt : i < m.length
  · have hw : IntKind.i64.wrap ((i : Int) + 1) = ((i + 1 : Nat) : Int) := by rw [wrap64] <;> omega
    by_cases hv : m[i] = true
    · have ha : appV 1 8 (mkL 1 (ints (idxs m i))) [[.int .i64 i]] = some (mkL 1 (ints (idxs m (i + 1)))) := by
        rw [appV_mk (by rfl) (by have := idxs_len m i; simp [room]; omega)]
        simp [idxs, hlt, hv]
      simp [hs, hlt, hv, hw, fillRows, AV.allCells, AV.isCell, ha]
      exact ih (i + 1) (by omega) (by omega)
    · have e : idxs m (i + 1) = idxs m i := by simp [idxs, hlt, hv]
      simp [hs, hlt, hv, hw]
      have := ih (i + 1) (by omega) (by omega)
      rw [e] at this
      exact this
  · have : i = m.length := by omega
    subst this
    simp [hs]

/-- The first place where p holds; -1. -/
def ixOf (p : Int → Bool) (xs : List Int) : Int := match xs.findIdx? p with | some i => i | none => -1

theorem ixOf_found {p : Int → Bool} {xs : List Int} {i : Nat} (h : i < xs.length) (hp : p xs[i] = true) (hb : ∀ k (hk : k < xs.length), k < i → p xs[k] = false) : ixOf p xs = i := by
  have : xs.findIdx? p = some i := by
    rw [List.findIdx?_eq_some_iff_getElem]
    exact ⟨h, hp, fun j hj => by simpa using hb j (by omega) hj⟩
  simp [ixOf, this]
theorem ixOf_none {p : Int → Bool} {xs : List Int} (hb : ∀ k (hk : k < xs.length), p xs[k] = false) : ixOf p xs = -1 := by
  have : xs.findIdx? p = none := by
    rw [List.findIdx?_eq_none_iff]
    intro x hx
    obtain ⟨k, hk, rfl⟩ := List.mem_iff_getElem.1 hx
    exact hb k hk
  simp [ixOf, this]
theorem ixOf_nonneg {p : Int → Bool} {xs : List Int} : 0 ≤ ixOf p xs ↔ ∃ x ∈ xs, p x = true := by
  unfold ixOf
  cases h : xs.findIdx? p with
  | none =>
    rw [List.findIdx?_eq_none_iff] at h
    simp only [show ¬ (0 : Int) ≤ -1 by omega, false_iff, not_exists, not_and]
    intro x hx
    simp [h x hx]
  | some i =>
    rw [List.findIdx?_eq_some_iff_getElem] at h
    obtain ⟨h1, h2, _⟩ := h
    simp only [show (0 : Int) ≤ (i : Int) by omega, true_iff]
    exact ⟨_, List.getElem_mem h1, h2⟩

theorem index_ok (wl lim : Nat) (l : AV) (v : Int) (st : Store) (hl : isI l = true) (hn : (dI l).length < 1000000000000) :
   (orcL S).call wl lim 30 [l, .int .i64 v] st = some (.int .i64 (ixOf (fun x => decide (v = x)) (dI l)), st) := by
  refine call_pure (sf := s30) rfl rfl (by simp [*]) rfl (by simp [*]) ?_
  simp [s30, hl, rowsL_I hl]
  refine W_loopI s30_l0.eq_1 (fun i : Nat => ⟨[(0, .val l), (1, .val (.int .i64 v)), (7, .val (.int .i64 (dI l).length)), (8, .val (.int .i64 i))], [], []⟩) (fun i => i ≤ (dI l).length ∧ ∀ k (h : k < (dI l).length), k < i → v ≠ (dI l)[k]) (fun i => (dI l).length - i) 0 rfl ⟨by omega, fun k _ h => by omega⟩ ?_
  intro i ⟨hi, hk⟩ ih
  by_cases hlt : i < (dI l).length
  · have hw : IntKind.i64.wrap ((i : Int) + 1) = ((i + 1 : Nat) : Int) := by rw [wrap64] <;> omega
    by_cases hv : v = (dI l)[i]
    · simp [hl, rowsL_I hl, hlt, ← hv]
      rw [ixOf_found hlt (by simpa using hv) fun k h1 h2 => by simpa using hk k h1 h2]
    · simp [hl, rowsL_I hl, hlt, hv, hw]
      refine ih (i + 1) ⟨by omega, fun k h1 hk' => ?_⟩ (by omega)
      rcases Nat.lt_or_ge k i with h | h
      · exact hk k h1 h
      · have : k = i := by omega
        subst this
        exact hv
  · have hil : i = (dI l).length := by omega
    simp [hil]
    rw [ixOf_none fun k h1 => by simpa using hk k h1 (by omega)]

theorem contains_ok (wl lim : Nat) (l : AV) (v : Int) (st : Store) (hl : isI l = true) (hn : (dI l).length < 1000000000000) :
   (orcL S).call wl lim 26 [l, .int .i64 v] st = some (.bool (decide (v ∈ dI l)), st) := by
  refine call_pure (sf := s26) rfl rfl (by simp [*]) rfl (by simp [*]) ?_
  simp [s26, index_ok, hl, hn, ixOf_nonneg]

theorem closed1_ok (wl lim : Nat) (id : Nat) (v : AV) (x : Int) (st : Store) (hs : st[id]? = some (.rows 0 1 [[v]])) (hv : isI v = true) (hn : (dI v).length < 1000000000000) :
   (orcL S).call wl lim 25 [.int .i64 x, .ptr id 0 0 0] st = some (.bool (!decide (x ∈ dI v)), st) := by
  refine call_run (sf := s25) rfl rfl rfl ?_
  simp [s25, hs, contains_ok, hv, hn]

theorem indexFunc_ok (wl lim : Nat) (l : AV) (id : Nat) (v : AV) (st : Store) (hs : st[id]? = some (.rows 0 1 [[v]])) (hv : isI v = true) (hn : (dI v).length < 1000000000000) (hl : isI l = true) (hln : (dI l).length < 1000000000000) :
   (orcL S).call wl lim 29 [l, .fn 25 [] [.ptr id 0 0 0]] st = some (.int .i64 (ixOf (fun x => !decide (x ∈ dI v)) (dI l)), st) := by
  have hc := fun wl lim x => closed1_ok wl lim id v x st hs hv hn
  refine call_run (sf := s29) rfl rfl rfl ?_
  simp [s29, hl, rowsL_I hl]
  refine W_loopI s29_l0.eq_1 (fun i : Nat => ⟨[(0, .val l), (1, .val (.fn 25 [] [.ptr id 0 0 0])), (7, .val (.int .i64 (dI l).length)), (8, .val (.int .i64 i))], [], st⟩) (fun i => i ≤ (dI l).length ∧ ∀ k (h : k < (dI l).length), k < i → (dI l)[k] ∈ dI v) (fun i => (dI l).length - i) 0 rfl ⟨by omega, fun k _ h => by omega⟩ ?_
  intro i ⟨hi, hk⟩ ih
  by_cases hlt : i < (dI l).length
  · have hw : IntKind.i64.wrap ((i : Int) + 1) = ((i + 1 : Nat) : Int) := by rw [wrap64] <;> omega
    by_cases hx : (dI l)[i] ∈ dI v
    · simp [hl, rowsL_I hl, hlt, hx, hw, hc]
      refine ih (i + 1) ⟨by omega, fun k h1 hk' => ?_⟩ (by omega)
      rcases Nat.lt_or_ge k i with h | h
      · exact hk k h1 h
      · have : k = i := by omega
        subst this
        exact hx
    · simp [hl, rowsL_I hl, hlt, hx, hc]
      rw [ixOf_found hlt (by simpa using hx) fun k h1 h2 => by simpa using hk k h1 h2]
  · have hil : i = (dI l).length := by omega
    simp [hil]
    rw [ixOf_none fun k h1 => by simpa using hk k h1 (by omega)]

theorem containsFunc_ok (wl lim : Nat) (l : AV) (id : Nat) (v : AV) (st : Store) (hs : st[id]? = some (.rows 0 1 [[v]])) (hv : isI v = true) (hn : (dI v).length < 1000000000000) (hl : isI l = true) (hln : (dI l).length < 1000000000000) :
   (orcL S).call wl lim 24 [l, .fn 25 [] [.ptr id 0 0 0]] st = some (.bool (decide (∃ x ∈ dI l, x ∉ dI v)), st) := by
  have hi := fun wl lim => indexFunc_ok wl lim l id v st hs hv hn hl hln
  have hi2 := fun wl lim => indexFunc_ok wl lim l.view id v st hs hv hn (by simpa using hl) (by simpa using hln)
  refine call_run (sf := s24) rfl rfl rfl ?_
  simp [s24, hi, ixOf_nonneg]

theorem great_ok (wl lim : Nat) (f : AV) (st : Store) (hf : isII f = true) :
   (orcL S).call wl lim 8 [f] st = some (.bool (decide (60 < (dII f).length ∨ ∃ x ∈ dII f, 30 < x.length)), st) := by
  refine call_pure (sf := s8) rfl rfl (by simp [*]) rfl (by simp [*]) ?_
  by_cases h60 : (60 : Int) < ((els f).length : Int)
  · have h60' : 60 < (els f).length := by omega
    simp [s8, hf, rowsL_II hf, h60, h60']
  · have h60' : ¬ 60 < (els f).length := by omega
    simp [s8, hf, rowsL_II hf, h60, h60']
    refine W_loopI s8_l0.eq_1 (fun i : Nat => ⟨[(0, .val f), (3, .val (.int .i64 i))], [], []⟩) (fun i => i ≤ (els f).length ∧ ∀ k (h : k < (els f).length), k < i → ¬ 30 < (dI (els f)[k]).length) (fun i => (els f).length - i) 0 rfl ⟨by omega, fun k _ h => by omega⟩ ?_
    intro i ⟨hi, hk⟩ ih
    by_cases hlt : i < (els f).length
    · have hw : IntKind.i64.wrap ((i : Int) + 1) = ((i + 1 : Nat) : Int) := by rw [wrap64] <;> omega
      have hI := isI_els hf i hlt
      by_cases hx : (30 : Int) < ((dI (els f)[i]).length : Int)
      · simp [hf, rowsL_II hf, hlt, hI, rowsL_I hI, hx]
        exact ⟨dI (els f)[i], by unfold dII; exact List.mem_map.2 ⟨_, List.getElem_mem hlt, rfl⟩, by omega⟩
      · simp [hf, rowsL_II hf, hlt, hI, rowsL_I hI, hx, hw]
        refine ih (i + 1) ⟨by omega, fun k h1 hk' => ?_⟩ (by omega)
        rcases Nat.lt_or_ge k i with h | h
        · exact hk k h1 h
        · have : k = i := by omega
          subst this
          omega
    · have hil : i = (els f).length := by omega
      simp [hf, rowsL_II hf, hil]
      intro x hx
      simp only [dII, List.mem_map] at hx
      obtain ⟨a, ha, rfl⟩ := hx
      obtain ⟨k, h1, rfl⟩ := List.mem_iff_getElem.1 ha
      have := hk k h1 (by omega)
      omega

/-! ### What is reached -/

inductive Reach (F : List (List Int)) (R : List Int) : Nat → Prop
  | root (c : Nat) (hc : c < F.length) (h : (c : Int) ∈ R) : Reach F R c
  | step (c d : Nat) (hc : c < F.length) (hd : d < F.length) (h : Reach F R c) (hm : (d : Int) ∈ F[c]) : Reach F R d

/-- m tells what is reached. -/
def IsReach (F : List (List Int)) (R : List Int) (m : List Bool) : Prop := m.length = F.length ∧ ∀ c, m.getD c false = true ↔ Reach F R c

theorem isReach_unique {F : List (List Int)} {R : List Int} {m m' : List Bool} (h : IsReach F R m) (h' : IsReach F R m') : m = m' := by
  apply List.ext_getElem (by rw [h.1, h'.1])
  intro i h1 h2
  have e1 := h.2 i
  have e2 := h'.2 i
  simp only [List.getD_eq_getElem?_getD, List.getElem?_eq_getElem h1, List.getElem?_eq_getElem h2, Option.getD_some] at e1 e2
  have : (m[i] = true) ↔ (m'[i] = true) := e1.trans e2.symm
  cases ha : m[i] <;> cases hb : m'[i] <;> simp_all

/-- What is met is right and closed: it is what is reached. -/
theorem isReach_of {F : List (List Int)} {R : List Int} {m : List Bool} (hl : m.length = F.length) (h1 : ∀ c, m.getD c false = true → Reach F R c)
    (h2 : ∀ c : Nat, (c : Int) ∈ R → c < F.length → m.getD c false = true) (h3 : ∀ (c d : Nat) (hc : c < F.length), m.getD c false = true → (d : Int) ∈ F[c] → d < F.length → m.getD d false = true) : IsReach F R m := by
  refine ⟨hl, fun c => ⟨h1 c, fun h => ?_⟩⟩
  induction h with
  | root c hc h => exact h2 c h hc
  | step c d hc hd h hm ih => exact h3 c d hc ih hm hd

theorem getD_lt {m : List Bool} {c : Nat} (h : m.getD c false = true) : c < m.length := by
  rcases Nat.lt_or_ge c m.length with h' | h'
  · exact h'
  · simp [List.getD_eq_getElem?_getD, List.getElem?_eq_none h'] at h

theorem getD_set (m : List Bool) (c d : Nat) (b : Bool) : (m.set c b).getD d false = if c = d then (if c < m.length then b else false) else m.getD d false := by
  simp only [List.getD_eq_getElem?_getD, List.getElem?_set]
  by_cases h : c = d
  · subst h
    by_cases h' : c < m.length <;> simp [h']
  · simp [h]

/-- How many fields classes have that are not met. -/
def unmet : List (List Int) → List Bool → Nat
  | f :: fs, b :: bs => (if b then 0 else f.length) + unmet fs bs
  | _, _ => 0

theorem unmet_set : ∀ (F : List (List Int)) (m : List Bool) (c : Nat) (hc : c < F.length) (hm : c < m.length), m[c] = false → unmet F (m.set c true) + F[c].length = unmet F m
  | [], _, _, hc, _, _ => by simp at hc
  | _ :: _, [], _, _, hm, _ => by simp at hm
  | f :: F, b :: m, 0, _, _, h => by simp at h; subst h; simp [unmet]; omega
  | f :: F, b :: m, c + 1, hc, hm, h => by
    have := unmet_set F m c (by simpa using hc) (by simpa using hm) (by simpa using h)
    simp only [List.set_cons_succ, unmet, List.getElem_cons_succ]
    omega

def total (F : List (List Int)) : Nat := unmet F (List.replicate F.length false)
theorem unmet_le : ∀ (F : List (List Int)) (k : Nat) (m : List Bool), (∀ x ∈ F, x.length ≤ k) → unmet F m ≤ F.length * k
  | [], k, m, h => by simp [unmet]
  | f :: F, k, [], h => by simp [unmet]
  | f :: F, k, b :: m, h => by
    have h1 := unmet_le F k m fun x hx => h x (by simp [hx])
    have h2 := h f (by simp)
    simp only [unmet, List.length_cons, Nat.succ_mul]
    split <;> omega
end U22

namespace U22
open Ax Go Code22
set_option maxRecDepth 100000

theorem clone_ok (wl lim : Nat) (l : AV) (st : Store) (hl : isI l = true) (hn : (dI l).length < 1000000000000) (h : l ≠ .nilSl) :
   (orcL S).call wl lim 100000 [l] st = some (.mu st.length 0, st ++ [.rows 0 1 (ints (dI l))]) := by
  refine call_run (sf := s100000) rfl rfl rfl ?_
  have he : eqK .sl l.view .nilSl = some false ∧ eqK .sl l .nilSl = some false := by
    cases l <;> simp_all [isI, isSz, eqK, AV.view]
  have : (dI l).length * 8 ≤ room := by simp [room]; omega
  simp [s100000, he, hl, rowsL_I hl, this]

theorem clone_nil (wl lim : Nat) (st : Store) : (orcL S).call wl lim 100000 [.nilSl] st = some (.nilSl, st) := by
  refine call_run (sf := s100000) rfl rfl rfl ?_
  simp [s100000, eqK]

theorem valid_iff {n : Nat} {c : Int} (h0 : 0 ≤ c) (h1 : c < n) : ∃ k : Nat, c = k ∧ k < n := ⟨c.toNat, by omega, by omega⟩

/-- The second loop of reach.From: the places where m holds. -/
theorem from_tail (st : Store) (n0 : Nat) (m : List Bool) (hs : st[n0]? = some (.rows 0 1 (bools m))) (hn : m.length < 1000000000) :
  W S 0 0 [SRes.tmp 4 true] (PureQ [SRes.tmp 4 true] (mkL 1 (ints (idxs m m.length)))) [.code (.loop s10_l1), .blk 2, .code (.seq (.region [⟨some 62, .move, [.tmp 8 true], none⟩, ⟨some 4, .move, [.tmp 62 true], none⟩] none []) .ret)] .normal
    ⟨[(8, .val .nilSl), (49, .val (.mu n0 0)), (50, .val (.int .i64 m.length)), (51, .val (.int .i64 0))], [], st⟩ := by
  refine W_loopI s10_l1.eq_1 (fun i : Nat => ⟨[(8, .val (mkL 1 (ints (idxs m i)))), (49, .val (.mu n0 0)), (50, .val (.int .i64 m.length)), (51, .val (.int .i64 i))], [], st⟩) (fun i => i ≤ m.length) (fun i => m.length - i) 0 rfl (by omega) ?_
  intro i hi ih
  by_cases hlt : i < m.length
  · have hw : IntKind.i64.wrap ((i : Int) + 1) = ((i + 1 : Nat) : Int) := by rw [wrap64] <;> omega
    by_cases hv : m[i] = true
    · have ha : appV 1 8 (mkL 1 (ints (idxs m i))) [[.int .i64 i]] = some (mkL 1 (ints (idxs m (i + 1)))) := by
        rw [appV_mk (by rfl) (by have := idxs_len m i; simp [room]; omega)]
        simp [idxs, hlt, hv]
      simp [hs, hlt, hv, hw, ha]
      exact ih (i + 1) (by omega) (by omega)
    · have e : idxs m (i + 1) = idxs m i := by simp [idxs, hlt, hv]
      simp [hs, hlt, hv, hw]
      have := ih (i + 1) (by omega) (by omega)
      rw [e] at this
      exact this
  · have : i = m.length := by omega
    subst this
    simp

theorem exists_reach (F : List (List Int)) (R : List Int) : ∃ m, IsReach F R m := by
  refine ⟨(List.range F.length).map fun c => @decide (Reach F R c) (Classical.propDecidable _), by simp, fun c => ?_⟩
  by_cases hc : c < F.length
  · simp [List.getD_eq_getElem?_getD, hc]
  · constructor
    · intro h; have := getD_lt h; simp at this; omega
    · intro h; exfalso; cases h <;> omega

structure FromI (F : List (List Int)) (R : List Int) (x : List Bool × List Int × Nat) : Prop where
  len : x.1.length = F.length
  sound : ∀ c, x.1.getD c false = true → Reach F R c
  soundw : ∀ c : Nat, (c : Int) ∈ x.2.1 → c < F.length → Reach F R c
  roots : ∀ c : Nat, (c : Int) ∈ R → c < F.length → x.1.getD c false = true ∨ (c : Int) ∈ x.2.1
  steps : ∀ (c d : Nat) (hc : c < F.length), x.1.getD c false = true → (d : Int) ∈ F[c] → d < F.length → x.1.getD d false = true ∨ (d : Int) ∈ x.2.1
  room : x.2.1.length + unmet F x.1 ≤ R.length + total F

theorem mem_pop {ws : List Int} {c : Int} (h : ws ≠ []) : c ∈ ws ↔ c ∈ ws.take (ws.length - 1) ∨ c = ws.getLast h := by
  rw [← List.dropLast_eq_take]
  conv => lhs; rw [← List.dropLast_concat_getLast h]
  simp

theorem FromI.skip {F : List (List Int)} {R : List Int} {m : List Bool} {ws : List Int} {v v' : Nat} (h : FromI F R (m, ws, v)) (hne : ws ≠ []) (hs : ∀ c : Nat, (c : Int) = ws.getLast hne → c < F.length → m.getD c false = true) : FromI F R (m, ws.take (ws.length - 1), v') where
  len := h.len
  sound := h.sound
  soundw := fun c hc hl => h.soundw c ((mem_pop hne).2 (.inl hc)) hl
  roots := fun c hc hl => by
    rcases h.roots c hc hl with h1 | h1
    · exact .inl h1
    · rcases (mem_pop hne).1 h1 with h2 | h2
      · exact .inr h2
      · exact .inl (hs c h2 hl)
  steps := fun c d hc h1 h2 h3 => by
    rcases h.steps c d hc h1 h2 h3 with h4 | h4
    · exact .inl h4
    · rcases (mem_pop hne).1 h4 with h5 | h5
      · exact .inr h5
      · exact .inl (hs d h5 h3)
  room := by
    have := h.room
    simp only [List.length_take] at *
    omega

theorem FromI.meet {F : List (List Int)} {R : List Int} {m : List Bool} {ws : List Int} {v v' : Nat} (h : FromI F R (m, ws, v)) (hne : ws ≠ []) {c : Nat} (hc : (c : Int) = ws.getLast hne) (hl : c < F.length) (hm : c < m.length) (hf : m[c] = false) :
    FromI F R (m.set c true, ws.take (ws.length - 1) ++ F[c], v') where
  len := by simp [h.len]
  sound := fun d hd => by
    simp only [getD_set] at hd
    split at hd
    · rename_i e; subst e; exact h.soundw c (by rw [hc]; exact List.getLast_mem hne) hl
    · exact h.sound d hd
  soundw := fun d hd hld => by
    rcases List.mem_append.1 hd with h1 | h1
    · exact h.soundw d ((mem_pop hne).2 (.inl h1)) hld
    · exact .step c d hl hld (h.soundw c (by rw [hc]; exact List.getLast_mem hne) hl) h1
  roots := fun d hd hld => by
    simp only [getD_set, List.mem_append]
    by_cases e : c = d
    · subst e; simp [hm]
    · simp only [e, if_false]
      rcases h.roots d hd hld with h1 | h1
      · exact .inl h1
      · rcases (mem_pop hne).1 h1 with h2 | h2
        · exact .inr (.inl h2)
        · exact absurd (by rw [← hc] at h2; omega) e
  steps := fun a d ha h1 h2 h3 => by
    simp only [getD_set, List.mem_append] at *
    by_cases e : c = d
    · subst e; simp [hm]
    · simp only [e, if_false]
      by_cases e2 : c = a
      · subst e2; exact .inr (.inr h2)
      · simp only [e2, if_false] at h1
        rcases h.steps a d ha h1 h2 h3 with h4 | h4
        · exact .inl h4
        · rcases (mem_pop hne).1 h4 with h5 | h5
          · exact .inr (.inl h5)
          · exact absurd (by rw [← hc] at h5; omega) e
  room := by
    have h1 := h.room
    have h2 := unmet_set F m c hl hm hf
    have h3 : 0 < ws.length := List.length_pos_iff.2 hne
    simp only [List.length_append, List.length_take] at *
    omega

theorem FromI.fin {F : List (List Int)} {R : List Int} {m : List Bool} {v : Nat} (h : FromI F R (m, [], v)) : IsReach F R m :=
  isReach_of h.len h.sound (fun c hc hl => by simpa using h.roots c hc hl) fun c d hc h1 h2 h3 => by simpa using h.steps c d hc h1 h2 h3

theorem FromI.start (F : List (List Int)) (R : List Int) : FromI F R (List.replicate F.length false, R, 0) where
  len := by simp
  sound := fun c h => by simp [List.getD_eq_getElem?_getD, List.getElem?_replicate] at h; split at h <;> simp at h
  soundw := fun c hc hl => .root c hl hc
  roots := fun c hc _ => .inr hc
  steps := fun c d hc h => by simp [List.getD_eq_getElem?_getD, List.getElem?_replicate] at h; split at h <;> simp at h
  room := Nat.le_refl _

theorem bools_rep (n : Nat) : List.replicate n [AV.bool false] = bools (List.replicate n false) := by simp [bools]

theorem from_ok (wl lim : Nat) (f r : AV) (st : Store) (hf : isII f = true) (hr : isI r = true) (hF : (els f).length ≤ 100) (hx : ∀ x ∈ dII f, x.length ≤ 100) (hR : (dI r).length ≤ 100000) :
   ∃ m, IsReach (dII f) (dI r) m ∧ (orcL S).call wl lim 10 [f, r] st = some (mkL 1 (ints (idxs m m.length)), st) := by
  obtain ⟨m0, hm0⟩ := exists_reach (dII f) (dI r)
  refine ⟨m0, hm0, ?_⟩
  have hlen0 : m0.length = (els f).length := by rw [hm0.1, dII_len]
  have htot : total (dII f) ≤ 100 * 100 := by
    have := unmet_le (dII f) 100 (List.replicate (dII f).length false) hx
    rw [dII_len] at this
    have h2 : total (dII f) ≤ (els f).length * 100 := by unfold total; rwa [dII_len]
    exact Nat.le_trans h2 (Nat.mul_le_mul_right 100 hF)
  refine call_pure (sf := s10) rfl rfl (by simp [*]) rfl (by simp [*]) ?_
  have hrm : (0 : Int) ≤ ((els f).length : Int) ∧ ((els f).length : Int) ≤ ((els f).length : Int) ∧ ((els f).length : Int) * 1 ≤ (room : Int) := by simp [room]; omega
  have hrm2 : ((els f).length : Int) ≤ (room : Int) := by simp [room]; omega
  by_cases hnil : r = .nilSl
  · subst hnil
    have hfin : IsReach (dII f) [] (List.replicate (els f).length false) := by
      have := (FromI.start (dII f) []).fin
      rwa [dII_len] at this
    have e : List.replicate (els f).length false = m0 := isReach_unique hfin (by simpa using hm0)
    simp [s10, hf, rowsL_II hf, hrm2, clone_nil, bools_rep, e]
    rw [W_round s10_l0.eq_1]
    simp
    have := from_tail [.rows 0 1 (bools m0)] 0 m0 (by simp) (by omega)
    rw [hlen0] at this
    simpa [hlen0] using this
  · have hcl : ∀ wl lim s, (orcL S).call wl lim 100000 [r] s = some (.mu s.length 0, s ++ [.rows 0 1 (ints (dI r))]) := fun wl lim s => clone_ok wl lim r s hr (by omega) hnil
    simp [s10, hf, rowsL_II hf, hrm2, hcl, bools_rep]
    refine W_loopI s10_l0.eq_1 (fun x : List Bool × List Int × Nat => ⟨[(0, .val f), (5, .val (.mu 0 0)), (6, .val (.mu (1) x.2.2))], [], [.rows 0 1 (bools x.1), .rows x.2.2 1 (ints x.2.1)]⟩)
      (FromI (dII f) (dI r)) (fun x => x.2.1.length + unmet (dII f) x.1) (List.replicate (els f).length false, dI r, 0) rfl (by have := FromI.start (dII f) (dI r); rwa [dII_len] at this) ?_
    rintro ⟨m, ws, v⟩ hI ih
    by_cases hws : ws = []
    · subst hws
      have e : m = m0 := isReach_unique hI.fin hm0
      subst e
      simp
      have := from_tail [.rows 0 1 (bools m), .rows v 1 (ints [])] 0 m (by simp) (by omega)
      simpa using this
    · have h3 : 0 < ws.length := List.length_pos_iff.2 hws
      have hroom := hI.room
      simp only at hroom
      have hw : IntKind.i64.wrap ((ws.length : Int) - 1) = ((ws.length - 1 : Nat) : Int) := by rw [wrap64] <;> omega
      have hlast : ws[ws.length - 1] = ws.getLast hws := by rw [List.getLast_eq_getElem]
      have hlt : ws.length - 1 < ws.length := by omega
      generalize hc : ws[ws.length - 1] = c at hlast
      by_cases hval : 0 ≤ c ∧ c < ((els f).length : Int)
      · obtain ⟨h0, h1⟩ := hval
        obtain ⟨k, rfl, hk⟩ := valid_iff h0 h1
        have hkF : k < (dII f).length := by rw [dII_len]; exact hk
        have hkm : k < m.length := by rw [hI.len]; exact hkF
        cases hb : m[k] with
        | true =>
          simp [hw, h3, hlt, hc, isClass_ok, hf, rowsL_II hf, hk, hkm, hb]
          refine ih (m, ws.take (ws.length - 1), v + 1) (hI.skip hws fun d hd hl => ?_) (by simp [List.length_take]; omega)
          have : d = k := by rw [← hlast] at hd; omega
          subst this
          simp [List.getD_eq_getElem?_getD, hkm, hb]
        | false =>
          have hIk := isI_els hf k hk
          have hxk := hx (dI (els f)[k]) (by unfold dII; exact List.mem_map.2 ⟨_, List.getElem_mem hk, rfl⟩)
          have hrm3 : (ws.length - 1 + (dI (els f)[k]).length) * 8 ≤ room := by simp [room]; omega
          simp [hw, h3, hlt, hc, isClass_ok, hf, rowsL_II hf, hk, hkm, hb, hIk, rowsL_I hIk, hrm3]
          have hd := dII_get k hk
          have := hI.meet hws hlast hkF hkm hb (v' := v + 1 + 1)
          rw [hd] at this
          refine ih (m.set k true, ws.take (ws.length - 1) ++ dI (els f)[k], v + 1 + 1) this ?_
          have hu := unmet_set (dII f) m k hkF hkm hb
          rw [hd] at hu
          simp only [List.length_append, List.length_take]
          omega
      · have hval' : (decide (0 ≤ c) && decide (c < ((els f).length : Int))) = false := by
          rw [Bool.and_eq_false_iff]
          simp only [decide_eq_false_iff_not]
          by_cases h : 0 ≤ c
          · exact .inr fun h' => hval ⟨h, h'⟩
          · exact .inl h
        simp [hw, h3, hlt, hc, isClass_ok, hf, rowsL_II hf, hval']
        refine ih (m, ws.take (ws.length - 1), v + 1) (hI.skip hws fun d hd hl => ?_) (by simp [List.length_take]; omega)
        rw [dII_len] at hl
        rw [← hlast] at hd
        exact absurd ⟨by omega, by omega⟩ hval

end U22

namespace U22
open Ax Go Code22
set_option maxRecDepth 100000

/-- How many are not met. -/
def cf (m : List Bool) : Nat := m.countP (fun b => !b)
theorem cf_set (m : List Bool) (c : Nat) (h : c < m.length) (hf : m[c] = false) : cf (m.set c true) + 1 = cf m := by
  unfold cf
  induction m generalizing c with
  | nil => simp at h
  | cons b m ih =>
    cases c with
    | zero => simp at hf; subst hf; simp
    | succ c =>
      simp at hf
      have := ih c (by simpa using h) hf
      simp only [List.set_cons_succ, List.countP_cons]
      omega

structure Base (F : List (List Int)) (R : List Int) (m : List Bool) : Prop where
  len : m.length = F.length
  sound : ∀ c, m.getD c false = true → Reach F R c

def Rooted (F : List (List Int)) (R : List Int) (m : List Bool) : Prop := ∀ c : Nat, (c : Int) ∈ R → c < F.length → m.getD c false = true

def ClosedAt (F : List (List Int)) (m : List Bool) (c : Nat) : Prop := ∀ (hc : c < F.length), m.getD c false = true → ∀ d : Nat, (d : Int) ∈ F[c] → d < F.length → m.getD d false = true

theorem Base.set {F : List (List Int)} {R : List Int} {m : List Bool} (h : Base F R m) {c : Nat} (hr : Reach F R c) : Base F R (m.set c true) where
  len := by simp [h.len]
  sound := fun d hd => by
    rw [getD_set] at hd
    split at hd
    · rename_i e; subst e; exact hr
    · exact h.sound d hd

theorem getD_set_mono {m : List Bool} {c d : Nat} (h : m.getD d false = true) : (m.set c true).getD d false = true := by
  rw [getD_set]
  split
  · rename_i e; subst e; simp [getD_lt h]
  · exact h

structure Pass (F : List (List Int)) (R : List Int) (ms m : List Bool) (more : Bool) (c : Nat) : Prop where
  base : Base F R m
  root : Rooted F R m
  less : more = true → cf m < cf ms
  le : cf m ≤ cf ms
  done : more = false → ∀ c', c' < c → ClosedAt F m c'

theorem Pass.set {F : List (List Int)} {R : List Int} {ms m : List Bool} {more : Bool} {c d : Nat} (h : Pass F R ms m more c) (hd : d < m.length) (hf : m[d] = false) (hr : Reach F R d) : Pass F R ms (m.set d true) true c where
  base := h.base.set hr
  root := fun e he hl => getD_set_mono (h.root e he hl)
  less := fun _ => by have := cf_set m d hd hf; have := h.le; omega
  le := by have := cf_set m d hd hf; have := h.le; omega
  done := fun h => by cases h

theorem from2_ok (wl lim : Nat) (f r : AV) (st : Store) (hf : isII f = true) (hr : isI r = true) (hF : (els f).length ≤ 100) (hx : ∀ x ∈ dII f, x.length ≤ 100) (hR : (dI r).length ≤ 100000) :
   ∃ m, IsReach (dII f) (dI r) m ∧ (orcL S).call wl lim 11 [f, r] st = some (mkL 1 (ints (idxs m m.length)), st) := by
  obtain ⟨m0, hm0⟩ := exists_reach (dII f) (dI r)
  refine ⟨m0, hm0, ?_⟩
  have hlen0 : m0.length = (els f).length := by rw [hm0.1, dII_len]
  refine call_pure (sf := s11) rfl rfl (by simp [*]) rfl (by simp [*]) ?_
  have hrm2 : ((els f).length : Int) ≤ (room : Int) := by simp [room]; omega
  simp [s11, hf, rowsL_II hf, hrm2, bools_rep]
  refine W_loopI s11_l0.eq_1 (fun x : Nat × List Bool => ⟨[(0, .val f), (1, .val r), (5, .val (.mu 0 0)), (6, .val (.int .i64 x.1))], [], [.rows 0 1 (bools x.2)]⟩)
    (fun x => x.1 ≤ (dI r).length ∧ Base (dII f) (dI r) x.2 ∧ ∀ c : Nat, (c : Int) ∈ (dI r).take x.1 → c < (dII f).length → x.2.getD c false = true) (fun x => (dI r).length - x.1) (0, List.replicate (els f).length false) rfl ⟨by omega, ⟨by simp, fun c h => by simp [List.getD_eq_getElem?_getD, List.getElem?_replicate] at h; split at h <;> simp at h⟩, fun c h => by simp at h⟩ ?_
  rintro ⟨i, m⟩ ⟨hi, hB, hroot⟩ ih
  simp only at hi hB hroot
  have hml : m.length = (els f).length := by rw [hB.len, dII_len]
  by_cases hlt : i < (dI r).length
  · have hw : IntKind.i64.wrap ((i : Int) + 1) = ((i + 1 : Nat) : Int) := by rw [wrap64] <;> omega
    have htake : (dI r).take (i + 1) = (dI r).take i ++ [(dI r)[i]] := by rw [List.take_succ_eq_append_getElem hlt]
    generalize hc : (dI r)[i] = c at htake
    by_cases hval : 0 ≤ c ∧ c < ((els f).length : Int)
    · obtain ⟨h0, h1⟩ := hval
      obtain ⟨k, rfl, hk⟩ := valid_iff h0 h1
      have hkm : k < m.length := by omega
      have hkF : k < (dII f).length := by rw [dII_len]; exact hk
      simp [hr, rowsL_I hr, hlt, hc, below_ok, hkm, hw]
      refine ih (i + 1, m.set k true) ⟨by omega, hB.set (.root k hkF (by rw [← hc]; exact List.getElem_mem hlt)), fun d hd hl => ?_⟩ (by simp only; omega)
      simp only at hd ⊢
      rw [htake] at hd
      rcases List.mem_append.1 hd with h | h
      · exact getD_set_mono (hroot d h hl)
      · simp at h
        have : d = k := by omega
        subst this
        rw [getD_set]; simp [hkm]
    · have hval' : (decide (0 ≤ c) && decide (c < (m.length : Int))) = false := by
        rw [Bool.and_eq_false_iff]
        simp only [decide_eq_false_iff_not]
        by_cases h : 0 ≤ c
        · exact .inr fun h' => hval ⟨h, by omega⟩
        · exact .inl h
      simp [hr, rowsL_I hr, hlt, hc, below_ok, hval', hw]
      refine ih (i + 1, m) ⟨by omega, hB, fun d hd hl => ?_⟩ (by simp only; omega)
      simp only at hd ⊢
      rw [htake] at hd
      rcases List.mem_append.1 hd with h | h
      · exact hroot d h hl
      · simp at h
        rw [dII_len] at hl
        exact absurd ⟨by omega, by omega⟩ hval
  · have hil : i = (dI r).length := by omega
    have hroots : Rooted (dII f) (dI r) m := fun c hc hl => hroot c (by rw [hil, List.take_length]; exact hc) hl
    simp [hr, rowsL_I hr, hil]
    refine W_loopI s11_l3.eq_1 (fun x : List Bool × Bool => ⟨[(0, .val f), (5, .val (.mu 0 0)), (7, .val (.bool x.2))], [], [.rows 0 1 (bools x.1)]⟩)
      (fun x => Base (dII f) (dI r) x.1 ∧ Rooted (dII f) (dI r) x.1 ∧ (x.2 = false → ∀ c, c < (dII f).length → ClosedAt (dII f) x.1 c)) (fun x => 2 * cf x.1 + (if x.2 then 1 else 0)) (m, true) rfl ⟨hB, hroots, fun h => by cases h⟩ ?_
    rintro ⟨m, more⟩ ⟨hB, hroots, hcl⟩ ih3
    simp only at hB hroots hcl
    have hml : m.length = (els f).length := by rw [hB.len, dII_len]
    cases more with
    | false =>
      have e : m = m0 := isReach_unique (isReach_of hB.len hB.sound hroots fun c d hc h1 h2 h3 => hcl rfl c hc hc h1 d h2 h3) hm0
      subst e
      have := fun wl lim => list_ok wl lim 0 0 m ([.rows 0 1 (bools m)]) (by simp) (by omega)
      simp [this]
    | true =>
      simp
      refine W_loopI s11_l2.eq_1 (fun x : Nat × List Bool × Bool => ⟨[(0, .val f), (5, .val (.mu 0 0)), (7, .val (.bool x.2.2)), (8, .val (.int .i64 x.1))], [], [.rows 0 1 (bools x.2.1)]⟩)
        (fun x => x.1 ≤ (dII f).length ∧ Pass (dII f) (dI r) m x.2.1 x.2.2 x.1) (fun x => (dII f).length - x.1) (0, m, false) rfl ⟨by omega, ⟨hB, hroots, (fun h => by cases h), Nat.le_refl _, fun _ c' h => by omega⟩⟩ ?_
      rintro ⟨c, m2, more2⟩ ⟨hc, hP⟩ ih2
      simp only at hc hP
      have hml2 : m2.length = (els f).length := by rw [hP.base.len, dII_len]
      rw [dII_len] at hc
      by_cases hlc : c < (els f).length
      · have hw : IntKind.i64.wrap ((c : Int) + 1) = ((c + 1 : Nat) : Int) := by rw [wrap64] <;> omega
        have hlm : c < m2.length := by omega
        have hcF : c < (dII f).length := by rw [dII_len]; exact hlc
        have hIc := isI_els hf c hlc
        have hdc := dII_get c hlc
        simp [hlm]
        refine W_loopI s11_l1.eq_1 (fun x : Nat × List Bool × Bool => ⟨[(0, .val f), (5, .val (.mu 0 0)), (7, .val (.bool x.2.2)), (8, .val (.int .i64 c)), (9, .val (.int .i64 x.1))], [], [.rows 0 1 (bools x.2.1)]⟩)
          (fun x => x.1 ≤ (dI (els f)[c]).length ∧ Pass (dII f) (dI r) m x.2.1 x.2.2 c ∧ (x.2.2 = false → x.2.1.getD c false = true → ∀ j (hj : j < (dI (els f)[c]).length), j < x.1 → ∀ d : Nat, (dI (els f)[c])[j] = d → d < (dII f).length → x.2.1.getD d false = true))
          (fun x => (dI (els f)[c]).length - x.1) (0, m2, more2) rfl ⟨by omega, hP, fun _ _ j hj h => by omega⟩ ?_
        rintro ⟨k, m3, more3⟩ ⟨hk, hP3, hpart⟩ ih1
        simp only at hk hP3 hpart
        have hml3 : m3.length = (els f).length := by rw [hP3.base.len, dII_len]
        have hlm3 : c < m3.length := by omega
        have leave : ClosedAt (dII f) m3 c ∨ more3 = true → W S 0 0 [SRes.tmp 4 true] (PureQ [SRes.tmp 4 true] (mkL 1 (ints (idxs m0 m0.length)))) [.code (.loop s11_l2), .blk 4, .blk 3, .again s11_l3, .blk 2, .code (.seq (.region [⟨some 86, .move, [.tmp 5 true], none⟩, ⟨some 87, .call 23, [.tmp 86 true], none⟩, ⟨some 4, .move, [.tmp 87 true], none⟩] none []) .ret)] .normal
            ⟨[(0, .val f), (5, .val (.mu 0 0)), (7, .val (.bool more3)), (8, .val (.int .i64 ((c + 1 : Nat) : Int)))], [], [.rows 0 1 (bools m3)]⟩ := by
          intro hcl
          refine ih2 (c + 1, m3, more3) ⟨by simp only; rw [dII_len]; omega, hP3.base, hP3.root, hP3.less, hP3.le, fun hm c' hc' => ?_⟩ (by simp only; rw [dII_len]; omega)
          rcases Nat.lt_or_ge c' c with h | h
          · exact hP3.done hm c' h
          · have : c' = c := by omega
            subst this
            rcases hcl with h | h
            · exact h
            · simp only at hm; rw [hm] at h; cases h
        by_cases hlk : k < (dI (els f)[c]).length
        · cases hmc : m3[c] with
          | false =>
            simp [hf, rowsL_II hf, hlc, hIc, rowsL_I hIc, hlk, hlm3, hmc, hw]
            exact leave (.inl fun _ h => by simp [List.getD_eq_getElem?_getD, hlm3, hmc] at h)
          | true =>
            have hwk : IntKind.i64.wrap ((k : Int) + 1) = ((k + 1 : Nat) : Int) := by
              have := hx (dI (els f)[c]) (by unfold dII; exact List.mem_map.2 ⟨_, List.getElem_mem hlc, rfl⟩)
              rw [wrap64] <;> omega
            generalize he : (dI (els f)[c])[k] = e
            by_cases hval : 0 ≤ e ∧ e < ((els f).length : Int)
            · obtain ⟨h0, h1⟩ := hval
              obtain ⟨d, rfl, hd⟩ := valid_iff h0 h1
              have hdm : d < m3.length := by omega
              have hdF : d < (dII f).length := by rw [dII_len]; exact hd
              cases hmd : m3[d] with
              | true =>
                simp [hf, rowsL_II hf, hlc, hIc, rowsL_I hIc, hlk, hlm3, hmc, he, below_ok, hdm, hmd, hwk]
                refine ih1 (k + 1, m3, more3) ⟨by simp only; omega, hP3, fun h1 h2 j hj hjk d' hd' hl' => ?_⟩ (by simp only; omega)
                simp only at hjk h1 h2 ⊢
                rcases Nat.lt_or_ge j k with h | h
                · exact hpart h1 h2 j hj h d' hd' hl'
                · have : j = k := by omega
                  subst this
                  have : d' = d := by rw [he] at hd'; omega
                  subst this
                  simp [List.getD_eq_getElem?_getD, hdm, hmd]
              | false =>
                simp [hf, rowsL_II hf, hlc, hIc, rowsL_I hIc, hlk, hlm3, hmc, he, below_ok, hdm, hmd, hwk]
                refine ih1 (k + 1, m3.set d true, true) ⟨by simp only; omega, hP3.set hdm hmd (.step c d hcF hdF (hP3.base.sound c (by simp [List.getD_eq_getElem?_getD, hlm3, hmc])) ?_), fun h => by cases h⟩ (by simp only; omega)
                rw [hdc, ← he]
                exact List.getElem_mem hlk
            · have hval' : (decide (0 ≤ e) && decide (e < (m3.length : Int))) = false := by
                rw [Bool.and_eq_false_iff]
                simp only [decide_eq_false_iff_not]
                by_cases h : 0 ≤ e
                · exact .inr fun h' => hval ⟨h, by omega⟩
                · exact .inl h
              simp [hf, rowsL_II hf, hlc, hIc, rowsL_I hIc, hlk, hlm3, hmc, he, below_ok, hval', hwk]
              refine ih1 (k + 1, m3, more3) ⟨by simp only; omega, hP3, fun h1 h2 j hj hjk d' hd' hl' => ?_⟩ (by simp only; omega)
              simp only at hjk h1 h2 ⊢
              rcases Nat.lt_or_ge j k with h | h
              · exact hpart h1 h2 j hj h d' hd' hl'
              · have : j = k := by omega
                subst this
                rw [he] at hd'
                rw [dII_len] at hl'
                exact absurd ⟨by omega, by omega⟩ hval
        · have hkl : k = (dI (els f)[c]).length := by omega
          simp [hf, rowsL_II hf, hlc, hIc, rowsL_I hIc, hkl, hw]
          refine leave ?_
          cases more3 with
          | true => exact .inr rfl
          | false =>
            refine .inl fun _ h1 d hd hl => ?_
            rw [hdc] at hd
            obtain ⟨j, hj, hjd⟩ := List.mem_iff_getElem.1 hd
            exact hpart rfl h1 j hj (by omega) d hjd hl
      · have hcl : c = (els f).length := by omega
        simp [hml2, hcl]
        refine ih3 (m2, more2) ⟨hP.base, hP.root, fun h c' hc' => hP.done h c' (by rw [dII_len] at hc'; omega)⟩ ?_
        simp only [if_true]
        cases more2 with
        | true => have := hP.less rfl; simp only [if_true]; omega
        | false => have := hP.le; simp only [Bool.false_eq_true, if_false]; omega
end U22

namespace U22
open Ax Go Code22
set_option maxRecDepth 100000

section
variable (g : List (List Int) → List Int → List Bool) (hg : ∀ F R, IsReach F R (g F R))

/-- What is reached, as numbers. -/
def reachL (g : List (List Int) → List Int → List Bool) (F : List (List Int)) (R : List Int) : List Int := idxs (g F R) F.length

include hg
theorem g_len (F : List (List Int)) (R : List Int) : (g F R).length = F.length := (hg F R).1
theorem mem_reachL {F : List (List Int)} {R : List Int} {v : Int} : v ∈ reachL g F R ↔ ∃ c : Nat, v = c ∧ Reach F R c := by
  unfold reachL
  rw [mem_idxs]
  constructor
  · rintro ⟨c, h1, h2, h3⟩; exact ⟨c, h1, ((hg F R).2 c).1 h3⟩
  · rintro ⟨c, h1, h2⟩
    have := ((hg F R).2 c).2 h2
    exact ⟨c, h1, by have := getD_lt this; rw [g_len g hg] at this; exact this, this⟩
omit hg in
theorem reachL_len (F : List (List Int)) (R : List Int) : (reachL g F R).length ≤ F.length := idxs_len _ _

theorem fromE (wl lim : Nat) (f r : AV) (st : Store) (hf : isII f = true) (hr : isI r = true) (hF : (els f).length ≤ 100) (hx : ∀ x ∈ dII f, x.length ≤ 100) (hR : (dI r).length ≤ 100000) :
   (orcL S).call wl lim 10 [f, r] st = some (mkL 1 (ints (reachL g (dII f) (dI r))), st) := by
  obtain ⟨m, h1, h2⟩ := from_ok wl lim f r st hf hr hF hx hR
  rw [h2, isReach_unique h1 (hg _ _)]
  unfold reachL
  rw [g_len g hg]
theorem from2E (wl lim : Nat) (f r : AV) (st : Store) (hf : isII f = true) (hr : isI r = true) (hF : (els f).length ≤ 100) (hx : ∀ x ∈ dII f, x.length ≤ 100) (hR : (dI r).length ≤ 100000) :
   (orcL S).call wl lim 11 [f, r] st = some (mkL 1 (ints (reachL g (dII f) (dI r))), st) := by
  obtain ⟨m, h1, h2⟩ := from2_ok wl lim f r st hf hr hF hx hR
  rw [h2, isReach_unique h1 (hg _ _)]
  unfold reachL
  rw [g_len g hg]
end

theorem all_ok (wl lim : Nat) (a b : AV) (st : Store) (ha : isI a = true) (hb : isI b = true) (han : (dI a).length < 1000000000000) (hbn : (dI b).length < 1000000000000) :
   (orcL S).call wl lim 27 [a, b] st = some (.bool (decide (∀ x ∈ dI a, x ∈ dI b)), st) := by
  refine call_pure (sf := s27) rfl rfl (by simp [*]) rfl (by simp [*]) ?_
  simp [s27]
  refine W_loopI s27_l0.eq_1 (fun i : Nat => ⟨[(0, .val a), (1, .val b), (5, .val (.int .i64 i))], [], []⟩) (fun i => i ≤ (dI a).length ∧ ∀ k (h : k < (dI a).length), k < i → (dI a)[k] ∈ dI b) (fun i => (dI a).length - i) 0 rfl ⟨by omega, fun k _ h => by omega⟩ ?_
  intro i ⟨hi, hk⟩ ih
  by_cases hlt : i < (dI a).length
  · have hw : IntKind.i64.wrap ((i : Int) + 1) = ((i + 1 : Nat) : Int) := by rw [wrap64] <;> omega
    by_cases hv : (dI a)[i] ∈ dI b
    · simp [ha, hb, rowsL_I ha, hlt, in_ok, hbn, hv, hw]
      refine ih (i + 1) ⟨by omega, fun k h1 hk' => ?_⟩ (by omega)
      rcases Nat.lt_or_ge k i with h | h
      · exact hk k h1 h
      · have : k = i := by omega
        subst this
        exact hv
    · simp [ha, hb, rowsL_I ha, hlt, in_ok, hbn, hv]
      exact ⟨_, List.getElem_mem hlt, hv⟩
  · have hil : i = (dI a).length := by omega
    simp [ha, rowsL_I ha, hil]
    intro x hx
    obtain ⟨k, h1, rfl⟩ := List.mem_iff_getElem.1 hx
    exact hk k h1 (by omega)

theorem all2_ok (wl lim : Nat) (a b : AV) (st : Store) (ha : isI a = true) (hb : isI b = true) (han : (dI a).length < 1000000000000) (hbn : (dI b).length < 1000000000000) :
   (orcL S).call wl lim 19 [a, b] st = some (.bool (decide (∀ x ∈ dI a, x ∈ dI b)), st) := by
  refine call_pure (sf := s19) rfl rfl (by simp [*]) rfl (by simp [*]) ?_
  simp [s19, all_ok, ha, hb, han, hbn]

section
variable (g : List (List Int) → List Int → List Bool) (hg : ∀ F R, IsReach F R (g F R))
include hg
theorem closed2_ok (wl lim : Nat) (f r : AV) (st : Store) (hf : isII f = true) (hr : isI r = true) (hF : (els f).length ≤ 100) (hx : ∀ x ∈ dII f, x.length ≤ 100) (hR : (dI r).length ≤ 100000) :
   (orcL S).call wl lim 13 [f, r] st = some (.bool (decide (∀ x ∈ reachL g (dII f) (dI r), x ∈ dI r)), st) := by
  have hl : (reachL g (dII f) (dI r)).length < 1000000000000 := by have := reachL_len g (dII f) (dI r); rw [dII_len] at this; omega
  have hR' : (dI r).length < 1000000000000 := by omega
  have h1 := fun wl lim s => fromE g hg wl lim f r s hf hr hF hx hR
  have h2 := fun wl lim s => from2E g hg wl lim f r.view s hf (by simpa using hr) hF hx (by simpa using hR)
  refine call_pure (sf := s13) rfl rfl (by simp [*]) rfl (by simp [*]) ?_
  simp [s13, h2, all_ok, hr, hl, hR']

theorem closed_ok (wl lim : Nat) (f r : AV) (st : Store) (hf : isII f = true) (hr : isI r = true) (hF : (els f).length ≤ 100) (hx : ∀ x ∈ dII f, x.length ≤ 100) (hR : (dI r).length ≤ 100000) :
   (orcL S).call wl lim 12 [f, r] st = some (.bool (decide (∀ x ∈ reachL g (dII f) (dI r), x ∈ dI r)), st) := by
  have hl : (reachL g (dII f) (dI r)).length < 1000000000000 := by have := reachL_len g (dII f) (dI r); rw [dII_len] at this; omega
  have hR' : (dI r).length < 1000000000000 := by omega
  have h2 := fun wl lim s => fromE g hg wl lim f r.view s hf (by simpa using hr) hF hx (by simpa using hR)
  have h3 := fun wl lim => containsFunc_ok wl lim (mkL 1 (ints (reachL g (dII f) (dI r)))) 0 r ([.rows 0 1 [[r]]]) (by simp) hr hR' (by simp) (by simpa using hl)
  refine call_pure (sf := s12) rfl rfl (by simp [*]) rfl (by simp [*]) ?_
  simp [s12, h2, hr, h3]
  rw [← decide_not]
  exact decide_eq_decide.2 (by simp [Classical.not_forall])


/-- The numbers below k that have p. -/
def numsB (p : Nat → Bool) : Nat → List Int
  | 0 => []
  | k + 1 => numsB p k ++ (if p k then [(k : Int)] else [])
omit hg in
theorem numsB_len (p : Nat → Bool) : ∀ k, (numsB p k).length ≤ k
  | 0 => by simp [numsB]
  | k + 1 => by
    have := numsB_len p k
    simp only [numsB, List.length_append]
    split <;> simp <;> omega
omit hg in
theorem mem_numsB (p : Nat → Bool) : ∀ (i : Nat) (v : Int), v ∈ numsB p i ↔ ∃ c : Nat, v = c ∧ c < i ∧ p c = true
  | 0, v => by simp [numsB]
  | i + 1, v => by
    simp only [numsB, List.mem_append, mem_numsB p i v]
    constructor
    · rintro (⟨c, h1, h2, h3⟩ | h)
      · exact ⟨c, h1, by omega, h3⟩
      · split at h
        · rename_i hm
          simp at h
          exact ⟨i, h, by omega, hm⟩
        · simp at h
    · rintro ⟨c, h1, h2, h3⟩
      by_cases hc : c = i
      · subst hc
        right
        rw [if_pos h3]
        simp [h1]
      · exact .inl ⟨c, h1, by omega, h3⟩

def intoP (g : List (List Int) → List Int → List Bool) (F : List (List Int)) (c : Int) (k : Nat) : Bool := decide (c ∈ reachL g F [(k : Int)])

theorem into2_ok (wl lim : Nat) (f : AV) (c : Int) (st : Store) (hf : isII f = true) (hF : (els f).length ≤ 100) (hx : ∀ x ∈ dII f, x.length ≤ 100) :
   (orcL S).call wl lim 16 [f, .int .i64 c] st = some (mkL 1 (ints (numsB (intoP g (dII f) c) (els f).length)), st) := by
  refine call_pure (sf := s16) rfl rfl (by simp [*]) rfl (by simp [*]) ?_
  simp [s16]
  refine W_loopI s16_l0.eq_1 (fun i : Nat => ⟨[(0, .val f), (1, .val (.int .i64 c)), (5, .val (mkL 1 (ints (numsB (intoP g (dII f) c) i)))), (6, .val (.int .i64 i))], [], []⟩) (fun i => i ≤ (els f).length) (fun i => (els f).length - i) 0 rfl (by omega) ?_
  intro i hi ih
  by_cases hlt : i < (els f).length
  · have hw : IntKind.i64.wrap ((i : Int) + 1) = ((i + 1 : Nat) : Int) := by rw [wrap64] <;> omega
    have h2 := fun wl lim s => from2E g hg wl lim f.view (.lst 1 [[.int .i64 (i : Int)]]) s (by simpa using hf) (by simp) (by simpa using hF) (by simpa using hx) (by simp)
    have hl : (reachL g (dII f) [(i : Int)]).length < 1000000000000 := by have := reachL_len g (dII f) [(i : Int)]; rw [dII_len] at this; omega
    by_cases hv : c ∈ reachL g (dII f) [(i : Int)]
    · have ha : appV 1 8 (mkL 1 (ints (numsB (intoP g (dII f) c) i))) [[.int .i64 i]] = some (mkL 1 (ints (numsB (intoP g (dII f) c) (i + 1)))) := by
        rw [appV_mk (by rfl) (by have := numsB_len (intoP g (dII f) c) i; simp [room]; omega)]
        simp [numsB, intoP, hv]
      simp [hf, rowsL_II hf, hlt, h2, in_ok, hl, hv, hw, ha]
      exact ih (i + 1) (by omega) (by omega)
    · have e : numsB (intoP g (dII f) c) (i + 1) = numsB (intoP g (dII f) c) i := by simp [numsB, intoP, hv]
      simp [hf, rowsL_II hf, hlt, h2, in_ok, hl, hv, hw]
      have := ih (i + 1) (by omega) (by omega)
      rw [e] at this
      exact this
  · have : i = (els f).length := by omega
    subst this
    simp [hf, rowsL_II hf]

theorem into_ok (wl lim : Nat) (f : AV) (c : Int) (st : Store) (hf : isII f = true) (hF : (els f).length ≤ 100) (hx : ∀ x ∈ dII f, x.length ≤ 100) :
   (orcL S).call wl lim 15 [f, .int .i64 c] st = some (mkL 1 (ints (numsB (intoP g (dII f) c) (els f).length)), st) := by
  refine call_pure (sf := s15) rfl rfl (by simp [*]) rfl (by simp [*]) ?_
  simp [s15, hf, rowsL_II hf]
  refine W_loopI s15_l0.eq_1 (fun i : Nat => ⟨[(0, .val f), (1, .val (.int .i64 c)), (5, .val (mkL 1 (ints (numsB (intoP g (dII f) c) i)))), (8, .val (.int .i64 (els f).length)), (9, .val (.int .i64 i))], [], []⟩) (fun i => i ≤ (els f).length) (fun i => (els f).length - i) 0 rfl (by omega) ?_
  intro i hi ih
  by_cases hlt : i < (els f).length
  · have hw : IntKind.i64.wrap ((i : Int) + 1) = ((i + 1 : Nat) : Int) := by rw [wrap64] <;> omega
    have h2 := fun wl lim s => fromE g hg wl lim f.view (.lst 1 [[.int .i64 (i : Int)]]) s (by simpa using hf) (by simp) (by simpa using hF) (by simpa using hx) (by simp)
    have hl : (reachL g (dII f) [(i : Int)]).length < 1000000000000 := by have := reachL_len g (dII f) [(i : Int)]; rw [dII_len] at this; omega
    by_cases hv : c ∈ reachL g (dII f) [(i : Int)]
    · have ha : appV 1 8 (mkL 1 (ints (numsB (intoP g (dII f) c) i))) [[.int .i64 i]] = some (mkL 1 (ints (numsB (intoP g (dII f) c) (i + 1)))) := by
        rw [appV_mk (by rfl) (by have := numsB_len (intoP g (dII f) c) i; simp [room]; omega)]
        simp [numsB, intoP, hv]
      have hcv : 0 ≤ c ∧ c < ((els f).length : Int) := by
        obtain ⟨d, rfl, hd⟩ := (mem_reachL g hg).1 hv
        have : d < (dII f).length := by cases hd <;> assumption
        rw [dII_len] at this
        omega
      simp [hf, rowsL_II hf, hlt, h2, isClass_ok, contains_ok, hcv.1, hcv.2, hl, hv, hw, ha]
      exact ih (i + 1) (by omega) (by omega)
    · have e : numsB (intoP g (dII f) c) (i + 1) = numsB (intoP g (dII f) c) i := by simp [numsB, intoP, hv]
      have := ih (i + 1) (by omega) (by omega)
      rw [e] at this
      by_cases hcv : (decide (0 ≤ c) && decide (c < ((els f).length : Int))) = true
      · simp [hf, rowsL_II hf, hlt, h2, isClass_ok, contains_ok, hcv, hl, hv, hw]
        exact this
      · simp only [Bool.not_eq_true] at hcv
        simp [hf, rowsL_II hf, hlt, isClass_ok, hcv, hw]
        exact this
  · have : i = (els f).length := by omega
    subst this
    simp
end
end U22

namespace U22
open Ax Go Code22
set_option maxRecDepth 100000

theorem known0 : (orcL S).call 0 0 14 [] [] = some (.bool true, []) := by
  have h : (orc S 200).call 0 0 14 [] [] = some (.bool true, []) := by kernel_rfl
  exact (orc_leL S 200).call _ _ _ _ _ _ h

theorem great_bounds {f : AV} (h : ¬ (60 < (dII f).length ∨ ∃ x ∈ dII f, 30 < x.length)) : (els f).length ≤ 60 ∧ ∀ x ∈ dII f, x.length ≤ 30 := by
  rw [dII_len] at h
  refine ⟨?_, fun x hx => ?_⟩
  · rcases Nat.lt_or_ge 60 (els f).length with h1 | h1
    · exact absurd (.inl h1) h
    · exact h1
  · rcases Nat.lt_or_ge 30 x.length with h1 | h1
    · exact absurd (.inr ⟨x, hx, h1⟩) h
    · exact h1

section
variable (g : List (List Int) → List Int → List Bool) (hg : ∀ F R, IsReach F R (g F R))
include hg

theorem law_from (f r : AV) (hf : isII f = true) (hr : isI r = true) : (orcL S).call 0 0 3 [f, r] [] = some (.bool true, []) := by
  refine call_pure (sf := s3) rfl rfl (by simp [*]) rfl (by simp [*]) ?_
  by_cases hgr : 60 < (dII f).length ∨ ∃ x ∈ dII f, 30 < x.length
  · have hgt := fun wl lim s => great_ok wl lim f.view s (by simpa using hf)
    simp only [dII_view, decide_eq_true hgr] at hgt
    simp [s3, hgt]
  · have hgt := fun wl lim s => great_ok wl lim f.view s (by simpa using hf)
    simp only [dII_view, decide_eq_false hgr] at hgt
    obtain ⟨b1, b2⟩ := great_bounds hgr
    have b3 : (els f).length ≤ 100 := by omega
    have b4 : ∀ x ∈ dII f, x.length ≤ 100 := fun x hx => by have := b2 x hx; omega
    by_cases h60 : (60 : Int) < ((dI r).length : Int)
    · simp [s3, hgt, hr, rowsL_I hr, h60]
    · have hR : (dI r).length ≤ 100000 := by omega
      have e1 := fun wl lim s => fromE g hg wl lim f.view r.view s (by simpa using hf) (by simpa using hr) (by simpa using b3) (by simpa using b4) (by simpa using hR)
      have e2 := fun wl lim s => from2E g hg wl lim f.view r.view s (by simpa using hf) (by simpa using hr) (by simpa using b3) (by simpa using b4) (by simpa using hR)
      have e3 := fun wl lim s => closed_ok g hg wl lim f.view r.view s (by simpa using hf) (by simpa using hr) (by simpa using b3) (by simpa using b4) (by simpa using hR)
      have e4 := fun wl lim s => closed2_ok g hg wl lim f r s (by simpa using hf) (by simpa using hr) (by simpa using b3) (by simpa using b4) (by simpa using hR)
      have hl : (reachL g (dII f) (dI r)).length < 1000000000000 := by have := reachL_len g (dII f) (dI r); rw [dII_len] at this; omega
      simp [s3, hgt, hr, rowsL_I hr, h60, e1, e2, e3, e4, ints_ok, hl, known0]
end

theorem exists_g : ∃ g : List (List Int) → List Int → List Bool, ∀ F R, IsReach F R (g F R) :=
  ⟨fun F R => Classical.choose (exists_reach F R), fun F R => Classical.choose_spec (exists_reach F R)⟩

end U22

namespace U22
open Ax Go Code22
set_option maxRecDepth 100000
section
variable (g : List (List Int) → List Int → List Bool) (hg : ∀ F R, IsReach F R (g F R))
include hg

theorem law_into (f : AV) (c : Int) (hf : isII f = true) : (orcL S).call 0 0 4 [f, .int .i64 c] [] = some (.bool true, []) := by
  refine call_pure (sf := s4) rfl rfl (by simp [*]) rfl (by simp [*]) ?_
  by_cases hgr : 60 < (dII f).length ∨ ∃ x ∈ dII f, 30 < x.length
  · have hgt := fun wl lim s => great_ok wl lim f.view s (by simpa using hf)
    simp only [dII_view, decide_eq_true hgr] at hgt
    simp [s4, hgt]
  · have hgt := fun wl lim s => great_ok wl lim f.view s (by simpa using hf)
    simp only [dII_view, decide_eq_false hgr] at hgt
    obtain ⟨b1, b2⟩ := great_bounds hgr
    have b3 : (els f).length ≤ 100 := by omega
    have b4 : ∀ x ∈ dII f, x.length ≤ 100 := fun x hx => by have := b2 x hx; omega
    have e1 := fun wl lim s => into_ok g hg wl lim f.view c s (by simpa using hf) (by simpa using b3) (by simpa using b4)
    have e2 := fun wl lim s => into2_ok g hg wl lim f.view c s (by simpa using hf) (by simpa using b3) (by simpa using b4)
    have hl : (numsB (intoP g (dII f) c) (els f).length).length < 1000000000000 := by have := numsB_len (intoP g (dII f) c) (els f).length; omega
    simp [s4, hgt, e1, e2, ints_ok, hl]
    refine W_loopI s4_l0.eq_1 (fun i : Nat => ⟨[(0, .val f), (1, .val (.int .i64 c)), (5, .val (mkL 1 (ints (numsB (intoP g (dII f) c) (els f).length)))), (6, .val (.int .i64 i))], [], []⟩) (fun i => i ≤ (els f).length) (fun i => (els f).length - i) 0 rfl (by omega) ?_
    intro i hi ih
    by_cases hlt : i < (els f).length
    · have hw : IntKind.i64.wrap ((i : Int) + 1) = ((i + 1 : Nat) : Int) := by rw [wrap64] <;> omega
      have h2 := fun wl lim s => fromE g hg wl lim f.view (.lst 1 [[.int .i64 (i : Int)]]) s (by simpa using hf) (by simp) (by simpa using b3) (by simpa using b4) (by simp)
      have hl2 : (reachL g (dII f) [(i : Int)]).length < 1000000000000 := by have := reachL_len g (dII f) [(i : Int)]; rw [dII_len] at this; omega
      have hm : ((i : Int) ∈ numsB (intoP g (dII f) c) (els f).length) ↔ c ∈ reachL g (dII f) [(i : Int)] := by
        rw [mem_numsB]
        constructor
        · rintro ⟨d, h1, h2, h3⟩
          have : d = i := by omega
          subst this
          simpa [intoP] using h3
        · intro h; exact ⟨i, rfl, hlt, by simpa [intoP] using h⟩
      simp [hf, rowsL_II hf, hlt, h2, in_ok, hl, hl2, hm, hw]
      exact ih (i + 1) (by omega) (by omega)
    · have : i = (els f).length := by omega
      subst this
      simp [hf, rowsL_II hf, known0]
end
end U22

namespace U22
open Ax Go Code22
set_option maxRecDepth 100000

/-- A number into a rising list, once. -/
def putL (l : List Int) (v : Int) : List Int := let k := (l.takeWhile (fun x => decide (x < v))).length
  if l[k]? = some v then l else l.take k ++ v :: l.drop k

theorem put_ok (wl lim : Nat) (l : AV) (v : Int) (st : Store) (hl : isI l = true) (hn : (dI l).length < 1000000000) :
   ∃ r, (orcL S).call wl lim 31 [l, .int .i64 v] st = some (r, st) ∧ isI r = true ∧ dI r = putL (dI l) v := by
  have key : ∀ k, k ≤ (dI l).length → (∀ j (h : j < (dI l).length), j < k → (dI l)[j] < v) → (∀ h : k < (dI l).length, ¬ (dI l)[k] < v) → ((dI l).takeWhile (fun x => decide (x < v))).length = k := by
    intro k hk h1 h2
    have e : (dI l).takeWhile (fun x => decide (x < v)) = (dI l).take k := by
      conv => lhs; rw [← List.take_append_drop k (dI l)]
      have hall : ∀ x ∈ (dI l).take k, decide (x < v) = true := by
        intro x hx
        obtain ⟨j, hj, rfl⟩ := List.mem_iff_getElem.1 hx
        simp at hj
        simp [h1 j (by omega) (by omega)]
      rw [List.takeWhile_append_of_pos hall]
      have : ((dI l).drop k).takeWhile (fun x => decide (x < v)) = [] := by
        by_cases hkl : k < (dI l).length
        · rw [List.drop_eq_getElem_cons hkl]
          simp only [List.takeWhile_cons, h2 hkl]; simp
        · rw [List.drop_eq_nil_of_le (by omega)]; rfl
      rw [this, List.append_nil]
    rw [e, List.length_take]; omega
  obtain ⟨r, hr1, hr2, hr3⟩ : ∃ r, isI r = true ∧ dI r = putL (dI l) v ∧ ((∀ k, k = ((dI l).takeWhile (fun x => decide (x < v))).length → (dI l)[k]? = some v → r = l) ∧
      (∀ k, k = ((dI l).takeWhile (fun x => decide (x < v))).length → (dI l)[k]? ≠ some v → r = mkL 1 (ints ((dI l).take k ++ v :: (dI l).drop k)))) := by
    by_cases hk : (dI l)[((dI l).takeWhile (fun x => decide (x < v))).length]? = some v
    · exact ⟨l, hl, by simp [putL, hk], fun k hk1 hk2 => rfl, fun k hk1 hk2 => absurd (by rw [hk1]; exact hk) hk2⟩
    · exact ⟨mkL 1 (ints (putL (dI l) v)), by simp, by simp, fun k hk1 hk2 => absurd (by rw [← hk1]; exact hk2) hk, fun k hk1 hk2 => by simp [putL, ← hk1, hk2]⟩
  have app : ∀ k, k ≤ (dI l).length → appV 1 8 .nilSl (ints ((dI l).take k)) = some (mkL 1 (ints ((dI l).take k))) ∧ appV 1 8 (mkL 1 (ints ((dI l).take k))) [[.int .i64 v]] = some (mkL 1 (ints ((dI l).take k ++ [v]))) ∧
      appV 1 8 (mkL 1 (ints ((dI l).take k ++ [v]))) (ints ((dI l).drop k)) = some (mkL 1 (ints ((dI l).take k ++ v :: (dI l).drop k))) := by
    intro k hk
    refine ⟨?_, ?_, ?_⟩
    · have := appV_mk (sz := 1) (bytes := 8) (r := []) (new := ints ((dI l).take k)) (by simp) (by simp [room]; omega)
      simpa [mkL_nil] using this
    · rw [appV_mk (by rfl) (by simp [room]; omega)]; simp
    · rw [appV_mk (by simp) (by simp [room]; omega)]; simp
  refine ⟨r, ?_, hr1, hr2⟩
  refine call_pure (sf := s31) rfl rfl (by simp [*]) rfl (by simp [*]) ?_
  simp [s31]
  refine W_loopI s31_l0.eq_1 (fun i : Nat => ⟨[(0, .val l), (1, .val (.int .i64 v)), (5, .val (.int .i64 i))], [], []⟩) (fun i => i ≤ (dI l).length ∧ ∀ j (h : j < (dI l).length), j < i → (dI l)[j] < v) (fun i => (dI l).length - i) 0 rfl ⟨by omega, fun k _ h => by omega⟩ ?_
  intro i ⟨hi, hk⟩ ih
  by_cases hlt : i < (dI l).length
  · have hw : IntKind.i64.wrap ((i : Int) + 1) = ((i + 1 : Nat) : Int) := by rw [wrap64] <;> omega
    by_cases hv : (dI l)[i] < v
    · simp [hl, rowsL_I hl, hlt, hv, hw]
      refine ih (i + 1) ⟨by omega, fun k h1 hk' => ?_⟩ (by omega)
      rcases Nat.lt_or_ge k i with h | h
      · exact hk k h1 h
      · have : k = i := by omega
        subst this
        exact hv
    · have hki := key i hi hk fun _ => hv
      by_cases hve : (dI l)[i] = v
      · have := hr3.1 i hki.symm (by simp [hlt, hve])
        subst this
        simp [hl, rowsL_I hl, hlt, hve]
      · have hr := hr3.2 i hki.symm (by simp [hlt, hve])
        subst hr
        obtain ⟨a1, a2, a3⟩ := app i (by omega)
        have hi2 : (i : Int) ≤ ((dI l).length : Int) := by omega
        simp (maxDischargeDepth := 6) [hl, rowsL_I hl, hlt, hv, hve, W_draw0, noBoxes, hi, a1, a2, a3]
  · have hil : i = (dI l).length := by omega
    subst hil
    have hki := key (dI l).length hi hk fun h => absurd h (by omega)
    have hr := hr3.2 (dI l).length hki.symm (by simp)
    subst hr
    obtain ⟨a1, a2, a3⟩ := app (dI l).length (by omega)
    simp at a1 a2 a3
    simp (maxDischargeDepth := 6) [hl, rowsL_I hl, W_draw0, noBoxes, a1, a2, a3]
end U22

namespace U22
open Ax Go Code22
set_option maxRecDepth 100000

abbrev Rising (l : List Int) : Prop := l.Pairwise (· < ·)

theorem rising_ext : ∀ {l m : List Int}, Rising l → Rising m → (∀ x, x ∈ l ↔ x ∈ m) → l = m
  | [], [], _, _, _ => rfl
  | [], b :: m, _, _, h => by have := (h b).2 (by simp); simp at this
  | a :: l, [], _, _, h => by have := (h a).1 (by simp); simp at this
  | a :: l, b :: m, h1, h2, h => by
    rw [Rising, List.pairwise_cons] at h1 h2
    have hab : a = b := by
      have e1 := (h a).1 (by simp)
      have e2 := (h b).2 (by simp)
      rcases List.mem_cons.1 e1 with e | e
      · exact e
      · rcases List.mem_cons.1 e2 with e' | e'
        · exact e'.symm
        · have := h2.1 a e
          have := h1.1 b e'
          omega
    subst hab
    rw [rising_ext h1.2 h2.2 fun x => ?_]
    constructor
    · intro hx
      rcases List.mem_cons.1 ((h x).1 (by simp [hx])) with e | e
      · subst e; exact absurd (h1.1 x hx) (by omega)
      · exact e
    · intro hx
      rcases List.mem_cons.1 ((h x).2 (by simp [hx])) with e | e
      · subst e; exact absurd (h2.1 x hx) (by omega)
      · exact e

theorem idxs_rising (m : List Bool) : ∀ i, Rising (idxs m i)
  | 0 => List.Pairwise.nil
  | i + 1 => by
    simp only [idxs]
    refine List.pairwise_append.2 ⟨idxs_rising m i, by split <;> simp, fun x hx y hy => ?_⟩
    obtain ⟨c, rfl, hc, _⟩ := (mem_idxs m i x).1 hx
    split at hy
    · simp at hy; omega
    · simp at hy

theorem takeWhile_split (v : Int) : ∀ {l : List Int}, Rising l → ∃ a b, l = a ++ b ∧ (l.takeWhile (fun x => decide (x < v))).length = a.length ∧ (∀ x ∈ a, x < v) ∧ ∀ x ∈ b, v ≤ x
  | [], _ => ⟨[], [], rfl, rfl, by simp, by simp⟩
  | x :: l, h => by
    rw [Rising, List.pairwise_cons] at h
    by_cases hx : x < v
    · obtain ⟨a, b, h1, h2, h3, h4⟩ := takeWhile_split v h.2
      refine ⟨x :: a, b, by simp [h1], by simp [hx, h2], fun y hy => ?_, h4⟩
      rcases List.mem_cons.1 hy with e | e
      · subst e; exact hx
      · exact h3 y e
    · refine ⟨[], x :: l, rfl, by simp [hx], by simp, fun y hy => ?_⟩
      rcases List.mem_cons.1 hy with e | e
      · subst e; omega
      · have := h.1 y e; omega

theorem putL_ok {l : List Int} {v : Int} (h : Rising l) : Rising (putL l v) ∧ ∀ x, x ∈ putL l v ↔ x ∈ l ∨ x = v := by
  obtain ⟨a, b, h1, h2, h3, h4⟩ := takeWhile_split v h
  unfold putL
  simp only [h2]
  have e1 : l.take a.length = a := by rw [h1]; simp
  have e2 : l.drop a.length = b := by rw [h1]; simp
  have e3 : l[a.length]? = b[0]? := by rw [h1, List.getElem?_append_right (Nat.le_refl _), Nat.sub_self]
  rw [e1, e2, e3]
  split
  · rename_i hb
    refine ⟨h, fun x => ⟨fun hx => .inl hx, fun hx => ?_⟩⟩
    rcases hx with hx | rfl
    · exact hx
    · rw [h1]; exact List.mem_append.2 (.inr (List.mem_of_getElem? hb))
  · rename_i hb
    have hlt : ∀ x ∈ b, v < x := by
      intro x hx
      cases b with
      | nil => simp at hx
      | cons y b =>
        have hy : y ≠ v := by simpa using hb
        have h5 := h4 y (by simp)
        rw [h1, Rising, List.pairwise_append] at h
        have h6 := (List.pairwise_cons.1 h.2.1).1
        rcases List.mem_cons.1 hx with e | e
        · subst e; omega
        · have := h6 x e; omega
    rw [h1, Rising, List.pairwise_append] at h
    refine ⟨?_, fun x => ?_⟩
    · refine List.pairwise_append.2 ⟨h.1, List.pairwise_cons.2 ⟨hlt, h.2.1⟩, fun x hx y hy => ?_⟩
      rcases List.mem_cons.1 hy with e | e
      · subst e; exact h3 x hx
      · exact h.2.2 x hx y e
    · rw [h1]
      simp only [List.mem_append, List.mem_cons]
      constructor
      · rintro (h | h | h) <;> simp [h]
      · rintro ((h | h) | h) <;> simp [h]

theorem foldl_putL : ∀ (xs l : List Int), Rising l → Rising (xs.foldl putL l) ∧ (∀ x, x ∈ xs.foldl putL l ↔ x ∈ l ∨ x ∈ xs)
  | [], l, h => ⟨h, fun x => by simp⟩
  | v :: xs, l, h => by
    obtain ⟨h1, h2⟩ := putL_ok (v := v) h
    obtain ⟨h3, h4⟩ := foldl_putL xs (putL l v) h1
    refine ⟨h3, fun x => ?_⟩
    rw [List.foldl_cons, h4, h2]
    simp only [List.mem_cons]
    constructor
    · rintro ((h | h) | h) <;> simp [h]
    · rintro (h | h | h) <;> simp [h]

theorem putL_len (l : List Int) (v : Int) : (putL l v).length ≤ l.length + 1 := by
  unfold putL
  simp only
  split
  · omega
  · simp only [List.length_append, List.length_cons, List.length_take, List.length_drop]; omega
theorem foldl_len : ∀ (xs l : List Int), (xs.foldl putL l).length ≤ l.length + xs.length
  | [], l => by simp
  | v :: xs, l => by have h1 := foldl_len xs (putL l v); have h2 := putL_len l v; simp only [List.foldl_cons, List.length_cons]; omega

theorem put2_ok (wl lim : Nat) (l : AV) (v : Int) (st : Store) (hl : isI l = true) (hn : (dI l).length < 1000000000) :
   ∃ r, (orcL S).call wl lim 28 [l, .int .i64 v] st = some (r, st) ∧ isI r = true ∧ dI r = putL (dI l) v := by
  obtain ⟨r, h1, h2, h3⟩ := put_ok 0 0 l v [] hl hn
  refine ⟨r, ?_, h2, h3⟩
  refine call_pure (sf := s28) rfl rfl (by simp [*]) rfl (by simp [*]) ?_
  simp [s28, h1]

theorem both_ok (wl lim : Nat) (a b : AV) (st : Store) (ha : isI a = true) (hb : isI b = true) (han : (dI a).length < 10000000) (hbn : (dI b).length < 10000000) :
   ∃ r, (orcL S).call wl lim 18 [a, b] st = some (r, st) ∧ isI r = true ∧ dI r = (dI b).foldl putL ((dI a).foldl putL []) := by
  -- what put answers, step by step
  have step : ∀ l : AV, isI l = true → (dI l).length < 1000000000 → ∀ v, ∃ r, (orcL S).call 0 0 28 [l, .int .i64 v] [] = some (r, []) ∧ isI r = true ∧ dI r = putL (dI l) v := fun l h1 h2 v => put2_ok _ _ l v [] h1 h2
  have run : ∀ (l : AV), isI l = true → ∀ xs : List Int, (dI l).length + xs.length < 1000000000 → ∃ f : Nat → AV, f 0 = l ∧ ∀ i, i ≤ xs.length → isI (f i) = true ∧ dI (f i) = (xs.take i).foldl putL (dI l) ∧ (∀ h : i < xs.length, (orcL S).call 0 0 28 [f i, .int .i64 xs[i]] [] = some (f (i + 1), [])) := by
    intro l hl xs hn
    have grow : ∀ n, n ≤ xs.length → ∃ f : Nat → AV, f 0 = l ∧ (∀ i, i ≤ n → isI (f i) = true ∧ dI (f i) = (xs.take i).foldl putL (dI l)) ∧ ∀ i, i < n → ∀ h : i < xs.length, (orcL S).call 0 0 28 [f i, .int .i64 xs[i]] [] = some (f (i + 1), []) := by
      intro n
      induction n with
      | zero =>
        intro _
        refine ⟨fun _ => l, rfl, fun i hi => ⟨hl, ?_⟩, fun i hi => by omega⟩
        have : i = 0 := by omega
        subst this
        simp
      | succ n ih =>
        intro hnl
        obtain ⟨f, f0, f1, f2⟩ := ih (by omega)
        obtain ⟨g1, g2⟩ := f1 n (Nat.le_refl _)
        obtain ⟨r, r1, r2, r3⟩ := step (f n) g1 (by rw [g2]; have := foldl_len (xs.take n) (dI l); simp only [List.length_take] at this; omega) (xs[n]'(by omega))
        refine ⟨fun i => if i ≤ n then f i else r, by simp [f0], fun i hi => ?_, fun i hi h => ?_⟩
        · by_cases hin : i ≤ n
          · simp only [hin, if_true]; exact f1 i hin
          · have : i = n + 1 := by omega
            subst this
            simp only [hin, if_false]
            refine ⟨r2, ?_⟩
            rw [r3, g2, List.take_succ_eq_append_getElem (by omega), List.foldl_append]
            rfl
        · by_cases hin : i < n
          · simp only [show i ≤ n by omega, show i + 1 ≤ n by omega, if_true]; exact f2 i hin h
          · have : i = n := by omega
            subst this
            simp only [Nat.le_refl, if_true]
            rw [if_neg (by omega)]
            exact r1
    obtain ⟨f, f0, f1, f2⟩ := grow xs.length (Nat.le_refl _)
    exact ⟨f, f0, fun i hi => ⟨(f1 i hi).1, (f1 i hi).2, fun h => f2 i h h⟩⟩
  obtain ⟨f1, p1, p2⟩ := run .nilSl rfl (dI a) (by simp; omega)
  obtain ⟨q1, q2, _⟩ := p2 (dI a).length (Nat.le_refl _)
  rw [List.take_length] at q2
  have hlen1 := foldl_len (dI a) []
  obtain ⟨f2, u1, u2⟩ := run (f1 (dI a).length) q1 (dI b) (by rw [q2]; simp at *; omega)
  obtain ⟨v1, v2, _⟩ := u2 (dI b).length (Nat.le_refl _)
  rw [List.take_length, q2] at v2
  refine ⟨f2 (dI b).length, ?_, v1, v2⟩
  refine call_pure (sf := s18) rfl rfl (by simp [*]) rfl (by simp [*]) ?_
  simp [s18]
  refine W_loopI s18_l0.eq_1 (fun i : Nat => ⟨[(0, .val a), (1, .val b), (5, .val (f1 i)), (6, .val (.int .i64 i))], [], []⟩) (fun i => i ≤ (dI a).length) (fun i => (dI a).length - i) 0 (by simp [p1]) (by omega) ?_
  intro i hi ih
  by_cases hlt : i < (dI a).length
  · have hw : IntKind.i64.wrap ((i : Int) + 1) = ((i + 1 : Nat) : Int) := by rw [wrap64] <;> omega
    obtain ⟨_, _, hc⟩ := p2 i hi
    simp [ha, rowsL_I ha, hlt, hc hlt, hw]
    exact ih (i + 1) (by omega) (by omega)
  · have hil : i = (dI a).length := by omega
    subst hil
    simp [ha, rowsL_I ha]
    refine W_loopI s18_l1.eq_1 (fun i : Nat => ⟨[(1, .val b), (5, .val (f2 i)), (7, .val (.int .i64 i))], [], []⟩) (fun i => i ≤ (dI b).length) (fun i => (dI b).length - i) 0 (by simp [u1]) (by omega) ?_
    intro i hi ih
    by_cases hlt : i < (dI b).length
    · have hw : IntKind.i64.wrap ((i : Int) + 1) = ((i + 1 : Nat) : Int) := by rw [wrap64] <;> omega
      obtain ⟨_, _, hc⟩ := u2 i hi
      simp [hb, rowsL_I hb, hlt, hc hlt, hw]
      exact ih (i + 1) (by omega) (by omega)
    · have hil : i = (dI b).length := by omega
      subst hil
      simp [hb, rowsL_I hb]
end U22

namespace U22
open Ax Go Code22
set_option maxRecDepth 100000

theorem reach_mono {F : List (List Int)} {R R' : List Int} (h : ∀ c : Nat, c < F.length → (c : Int) ∈ R → Reach F R' c) : ∀ c, Reach F R c → Reach F R' c := by
  intro c hc
  induction hc with
  | root c hc hm => exact h c hc hm
  | step c d hc hd hr hm ih => exact .step c d hc hd ih hm

section
variable (g : List (List Int) → List Int → List Bool) (hg : ∀ F R, IsReach F R (g F R))
include hg

theorem reachL_congr {F : List (List Int)} {R R' : List Int} (h : ∀ c, Reach F R c ↔ Reach F R' c) : reachL g F R = reachL g F R' := by
  have : g F R = g F R' := isReach_unique (hg F R) ⟨(hg F R').1, fun c => ((hg F R').2 c).trans (h c).symm⟩
  unfold reachL; rw [this]

theorem reachL_again (F : List (List Int)) (R : List Int) : reachL g F (reachL g F R) = reachL g F R := by
  refine reachL_congr g hg fun c => ⟨reach_mono (fun c _ hc => ?_) c, reach_mono (fun c hl hc => .root c hl ((mem_reachL g hg).2 ⟨c, rfl, .root c hl hc⟩)) c⟩
  obtain ⟨d, h1, h2⟩ := (mem_reachL g hg).1 hc
  have : c = d := by omega
  subst this; exact h2

theorem reachL_both (F : List (List Int)) (a b : List Int) : (reachL g F b).foldl putL ((reachL g F a).foldl putL []) = reachL g F (a ++ b) := by
  obtain ⟨h1, h2⟩ := foldl_putL (reachL g F a) [] List.Pairwise.nil
  obtain ⟨h3, h4⟩ := foldl_putL (reachL g F b) _ h1
  refine rising_ext h3 (idxs_rising _ _) fun x => ?_
  rw [h4, h2]
  simp only [List.not_mem_nil, false_or]
  rw [mem_reachL g hg, mem_reachL g hg]
  show _ ↔ x ∈ reachL g F (a ++ b)
  rw [mem_reachL g hg]
  constructor
  · rintro (⟨c, rfl, h⟩ | ⟨c, rfl, h⟩)
    · exact ⟨c, rfl, reach_mono (fun c hl hc => .root c hl (by simp [hc])) c h⟩
    · exact ⟨c, rfl, reach_mono (fun c hl hc => .root c hl (by simp [hc])) c h⟩
  · rintro ⟨c, rfl, h⟩
    have : Reach F a c ∨ Reach F b c := by
      induction h with
      | root c hc hm =>
        rcases List.mem_append.1 hm with h | h
        · exact .inl (.root c hc h)
        · exact .inr (.root c hc h)
      | step c d hc hd hr hm ih =>
        rcases ih with h | h
        · exact .inl (.step c d hc hd h hm)
        · exact .inr (.step c d hc hd h hm)
    rcases this with h | h
    · exact .inl ⟨c, rfl, h⟩
    · exact .inr ⟨c, rfl, h⟩

theorem law_twice (f a b : AV) (hf : isII f = true) (ha : isI a = true) (hb : isI b = true) : (orcL S).call 0 0 5 [f, a, b] [] = some (.bool true, []) := by
  refine call_pure (sf := s5) rfl rfl (by simp [*]) rfl (by simp [*]) ?_
  by_cases hgr : 60 < (dII f).length ∨ ∃ x ∈ dII f, 30 < x.length
  · have hgt := fun wl lim s => great_ok wl lim f.view s (by simpa using hf)
    simp only [dII_view, decide_eq_true hgr] at hgt
    simp [s5, hgt]
  · have hgt := fun wl lim s => great_ok wl lim f.view s (by simpa using hf)
    simp only [dII_view, decide_eq_false hgr] at hgt
    obtain ⟨b1, b2⟩ := great_bounds hgr
    have b3 : (els f).length ≤ 100 := by omega
    have b4 : ∀ x ∈ dII f, x.length ≤ 100 := fun x hx => by have := b2 x hx; omega
    by_cases h60 : (60 : Int) < ((dI a).length : Int)
    · simp [s5, hgt, ha, rowsL_I ha, h60]
    · by_cases h61 : (60 : Int) < ((dI b).length : Int)
      · simp [s5, hgt, ha, rowsL_I ha, hb, rowsL_I hb, h60, h61]
      · have hla : (reachL g (dII f) (dI a)).length ≤ 100 := by have := reachL_len g (dII f) (dI a); rw [dII_len] at this; omega
        have hlb : (reachL g (dII f) (dI b)).length ≤ 100 := by have := reachL_len g (dII f) (dI b); rw [dII_len] at this; omega
        have hlc : (reachL g (dII f) (dI a ++ dI b)).length < 1000000000000 := by have := reachL_len g (dII f) (dI a ++ dI b); rw [dII_len] at this; omega
        have e1 := fun wl lim s => fromE g hg wl lim f.view a.view s (by simpa using hf) (by simpa using ha) (by simpa using b3) (by simpa using b4) (by rw [dI_view]; omega)
        have e2 := fun wl lim s => fromE g hg wl lim f.view b.view s (by simpa using hf) (by simpa using hb) (by simpa using b3) (by simpa using b4) (by rw [dI_view]; omega)
        have a1 : appV 1 8 .nilSl (ints (dI a)) = some (mkL 1 (ints (dI a))) := by
          have := appV_mk (sz := 1) (bytes := 8) (r := []) (new := ints (dI a)) (by simp) (by simp [room]; omega)
          simpa [mkL_nil] using this
        have a2 : appV 1 8 (mkL 1 (ints (dI a))) (ints (dI b)) = some (mkL 1 (ints (dI a ++ dI b))) := by
          rw [appV_mk (by simp) (by simp [room]; omega)]; simp
        have e3 := fun wl lim s => fromE g hg wl lim f.view (mkL 1 (ints (dI a ++ dI b))) s (by simpa using hf) (by simp) (by simpa using b3) (by simpa using b4) (by simp; omega)
        have e4 := fun wl lim s => fromE g hg wl lim f.view (mkL 1 (ints (reachL g (dII f) (dI a)))).view s (by simpa using hf) (by simp) (by simpa using b3) (by simpa using b4) (by simp; omega)
        have e5 := fun wl lim s => closed_ok g hg wl lim f (mkL 1 (ints (reachL g (dII f) (dI a)))).view s (by simpa using hf) (by simp) (by simpa using b3) (by simpa using b4) (by simp; omega)
        obtain ⟨r, r1, r2, r3⟩ := both_ok 0 0 (mkL 1 (ints (reachL g (dII f) (dI a)))) (mkL 1 (ints (reachL g (dII f) (dI b)))) [] (by simp) (by simp) (by simp; omega) (by simp; omega)
        simp only [dI_mk, reachL_both g hg] at r3
        have hla' : (reachL g (dII f) (dI a)).length < 1000000000000 := by omega
        simp [s5, hgt, ha, rowsL_I ha, hb, rowsL_I hb, h60, h61, e1, e2, a1, a2, e3, e4, e5, ints_ok, hla', reachL_again g hg, r1, r2, r3, hlc, known0]
end
end U22

namespace U22
open Ax Go Code22
set_option maxRecDepth 100000

/-! ### A list of lists that is being built in memory -/

def idOf : AV → List Nat | .mu id _ => [id] | _ => []

/-- A cell and the row that it stands for. -/
def El (st : Store) (c : AV) (r : List Int) : Prop := (c = .nilSl ∧ r = []) ∨ (r ≠ [] ∧ ∃ id v, c = .mu id v ∧ st[id]? = some (.rows v 1 (ints r)))

/-- No two cells name the same object. -/
def Apart (cs : List AV) : Prop := ∀ (j k : Nat) (hj : j < cs.length) (hk : k < cs.length), j ≠ k → ∀ x, x ∈ idOf cs[j] → x ∉ idOf cs[k]

structure Rw (st : Store) (q v : Nat) (T : List (List Int)) (cs : List AV) : Prop where
  len : cs.length = T.length
  lst : st[q]? = some (.rows v 1 (cs.map fun c => [c]))
  el : ∀ k (h : k < cs.length) (h2 : k < T.length), El st cs[k] T[k]
  nd : Apart cs
  qn : ∀ c ∈ cs, q ∉ idOf c

variable {st : Store} {q v : Nat} {T : List (List Int)} {cs : List AV}

theorem app_some {i : Nat} {x : AObj} (h : st[i]? = some x) (l : Store) : (st ++ l)[i]? = some x := by
  rw [List.getElem?_append_left (List.getElem?_eq_some_iff.1 h).1]; exact h
theorem El.app {c : AV} {r : List Int} (h : El st c r) (l : Store) : El (st ++ l) c r := by
  rcases h with h | ⟨h0, id, v, h1, h2⟩
  · exact .inl h
  · exact .inr ⟨h0, id, v, h1, app_some h2 l⟩
theorem El.set {c : AV} {r : List Int} (h : El st c r) {i : Nat} (hi : i ∉ idOf c) (x : AObj) : El (st.set i x) c r := by
  rcases h with h | ⟨h0, id, v, h1, h2⟩
  · exact .inl h
  · subst h1
    have : i ≠ id := by simpa [idOf] using hi
    exact .inr ⟨h0, id, v, rfl, by rw [List.getElem?_set_ne this]; exact h2⟩
theorem El.lt {c : AV} {r : List Int} (h : El st c r) {i : Nat} (hi : i ∈ idOf c) : i < st.length := by
  rcases h with ⟨h, _⟩ | ⟨h0, id, v, h1, h2⟩
  · subst h; simp [idOf] at hi
  · subst h1
    simp [idOf] at hi
    subst hi
    exact (List.getElem?_eq_some_iff.1 h2).1

theorem Rw.ids_lt (h : Rw st q v T cs) {i : Nat} {c : AV} (hc : c ∈ cs) (hi : i ∈ idOf c) : i < st.length := by
  obtain ⟨k, hk, rfl⟩ := List.mem_iff_getElem.1 hc
  exact (h.el k hk (by rw [← h.len]; exact hk)).lt hi
theorem Rw.q_lt (h : Rw st q v T cs) : q < st.length := (List.getElem?_eq_some_iff.1 h.lst).1

/-- One row more. -/
theorem Rw.push (h : Rw st q v T cs) {l : Store} {c : AV} {r : List Int} (hc : El (st ++ l) c r) (hi : ∀ i ∈ idOf c, st.length ≤ i) :
    Rw ((st ++ l).set q (.rows (v + 1) 1 (cs.map (fun c => [c]) ++ [[c]]))) q (v + 1) (T ++ [r]) (cs ++ [c]) := by
  have hq := h.q_lt
  have hqc : q ∉ idOf c := fun e => by have := hi q e; omega
  have hlast : ∀ hk, (cs ++ [c])[cs.length]'hk = c := fun hk => by simp
  refine ⟨by simp [h.len], ?_, fun k hk hk2 => ?_, fun j k hj hk hjk x hx1 hx2 => ?_, fun d hd e => ?_⟩
  · rw [List.getElem?_set_self (by simp; omega)]; simp
  · by_cases e : k < cs.length
    · have e2 : k < T.length := by rw [← h.len]; exact e
      rw [List.getElem_append_left e, List.getElem_append_left e2]
      exact ((h.el k e e2).app l).set (h.qn _ (List.getElem_mem e)) _
    · have : k = cs.length := by simp at hk; omega
      subst this
      have h2 : (T ++ [r])[cs.length] = r := by simp [h.len]
      rw [hlast, h2]
      exact hc.set hqc _
  · simp only [List.length_append, List.length_cons, List.length_nil] at hj hk
    by_cases e1 : j < cs.length
    · rw [List.getElem_append_left e1] at hx1
      by_cases e2 : k < cs.length
      · rw [List.getElem_append_left e2] at hx2
        exact h.nd j k e1 e2 hjk x hx1 hx2
      · have : k = cs.length := by omega
        subst this
        rw [hlast] at hx2
        have := hi x hx2
        have := h.ids_lt (List.getElem_mem e1) hx1
        omega
    · have : j = cs.length := by omega
      subst this
      rw [hlast] at hx1
      have e2 : k < cs.length := by omega
      rw [List.getElem_append_left e2] at hx2
      have := hi x hx1
      have := h.ids_lt (List.getElem_mem e2) hx2
      omega
  · rcases List.mem_append.1 hd with hd | hd
    · exact h.qn d hd e
    · rw [List.mem_singleton.1 hd] at e
      exact hqc e

theorem Rw.first {l : Store} {c : AV} {r : List Int} {q : Nat} (hc : El l c r) (hq : l.length = q) : Rw (l ++ [.rows 0 1 [[c]]]) q 0 [r] [c] := by
  subst hq
  refine ⟨rfl, by simp, fun k hk hk2 => ?_, fun j k hj hk hjk => ?_, fun d hd e => ?_⟩
  · have : k = 0 := by simpa using hk
    subst this
    exact hc.app _
  · simp at hj hk; omega
  · rw [List.mem_singleton.1 hd] at e
    have := hc.lt e
    omega

/-- A row changed in its place. -/
theorem Rw.setRow (h : Rw st q v T cs) {k id w : Nat} (hk : k < cs.length) (he : cs[k] = .mu id w) {r : List Int} (hr : r ≠ []) : Rw (st.set id (.rows w 1 (ints r))) q v (T.set k r) cs := by
  have hin : id ∈ idOf cs[k] := by rw [he]; simp [idOf]
  have hlt := h.ids_lt (List.getElem_mem hk) hin
  have hq : id ≠ q := fun e => h.qn _ (List.getElem_mem hk) (e ▸ hin)
  refine ⟨by simp [h.len], by rw [List.getElem?_set_ne hq]; exact h.lst, fun j hj hj2 => ?_, h.nd, h.qn⟩
  by_cases e : k = j
  · subst e
    rw [List.getElem_set_self, he]
    exact .inr ⟨hr, id, w, rfl, List.getElem?_set_self hlt⟩
  · rw [List.getElem_set_ne e]
    exact (h.el j hj (by simpa using hj2)).set (h.nd k j hk hj e id hin) _

/-- Another cell in a row's place. -/
theorem Rw.setCell (h : Rw st q v T cs) {k : Nat} (hk : k < cs.length) {st1 : Store} {c : AV} {r : List Int} (hq : st1[q]? = st[q]?) (hc : El st1 c r) (ho : ∀ j (hj : j < cs.length) (hj2 : j < T.length), j ≠ k → El st1 cs[j] T[j])
    (hi : ∀ i ∈ idOf c, i ∈ idOf cs[k] ∨ st.length ≤ i) : Rw (st1.set q (.rows v 1 ((cs.set k c).map fun c => [c]))) q v (T.set k r) (cs.set k c) := by
  have hql := h.q_lt
  have hql1 : q < st1.length := (List.getElem?_eq_some_iff.1 (hq.trans h.lst)).1
  have hqc : q ∉ idOf c := fun e => by
    rcases hi q e with h1 | h1
    · exact h.qn _ (List.getElem_mem hk) h1
    · omega
  refine ⟨by simp [h.len], by rw [List.getElem?_set_self hql1], fun j hj hj2 => ?_, fun i j hi1 hj1 hij x hx1 hx2 => ?_, fun d hd e => ?_⟩
  · by_cases e : k = j
    · subst e
      rw [List.getElem_set_self, List.getElem_set_self]
      exact hc.set hqc _
    · rw [List.getElem_set_ne e, List.getElem_set_ne e]
      simp only [List.length_set] at hj hj2
      exact (ho j hj hj2 (Ne.symm e)).set (h.qn _ (List.getElem_mem hj)) _
  · simp only [List.length_set] at hi1 hj1
    by_cases e1 : k = i
    · subst e1
      rw [List.getElem_set_self] at hx1
      rw [List.getElem_set_ne hij] at hx2
      rcases hi x hx1 with h1 | h1
      · exact h.nd k j hk hj1 hij x h1 hx2
      · have := h.ids_lt (List.getElem_mem hj1) hx2; omega
    · rw [List.getElem_set_ne e1] at hx1
      by_cases e2 : k = j
      · subst e2
        rw [List.getElem_set_self] at hx2
        rcases hi x hx2 with h1 | h1
        · exact h.nd i k hi1 hk hij x hx1 h1
        · have := h.ids_lt (List.getElem_mem hi1) hx1; omega
      · rw [List.getElem_set_ne e2] at hx2
        exact h.nd i j hi1 hj1 hij x hx1 hx2
  · rcases List.mem_or_eq_of_mem_set hd with hd | hd
    · exact h.qn d hd e
    · exact hqc (hd ▸ e)

/-! ### Frozen -/
def rowV (r : List Int) : AV := if r = [] then .nilSl else .lst 1 (ints r)

theorem ints_pure (r : List Int) : (ints r).all AV.allPure = true := by
  simp [ints, AV.allPure, AV.isPure]
theorem ints_view (r : List Int) : (ints r).map AV.viewL = ints r := by
  simp [ints, AV.viewL, AV.view]

theorem frz_rows : ∀ (cs : List AV) (T : List (List Int)) (st : Store), cs.length = T.length → (∀ k (h : k < cs.length) (h2 : k < T.length), El st cs[k] T[k]) → Apart cs →
    ∃ st', freezeLL 0 (cs.map fun c => [c]) st = some (T.map fun r => [rowV r], st')
  | [], [], st, _, _, _ => ⟨st, rfl⟩
  | [], _ :: _, _, h, _, _ => by simp at h
  | _ :: _, [], _, h, _, _ => by simp at h
  | c :: cs, r :: T, st, hl, he, hn => by
    have h0 := he 0 (by simp) (by simp)
    simp only [List.getElem_cons_zero] at h0
    have hn' : Apart cs := fun j k hj hk hjk x h1 h2 => hn (j + 1) (k + 1) (by simp; exact hj) (by simp; exact hk) (by omega) x (by simpa only [List.getElem_cons_succ] using h1) (by simpa only [List.getElem_cons_succ] using h2)
    have hr : ∀ st', (∀ c' ∈ cs, ∀ r', El st c' r' → El st' c' r') → ∃ st'', freezeLL 0 (cs.map fun c => [c]) st' = some (T.map fun r => [rowV r], st'') := fun st' h =>
      frz_rows cs T st' (by simpa using hl) (fun k hk hk2 => h _ (List.getElem_mem hk) _ (by have := he (k + 1) (by simp; exact hk) (by simp; exact hk2); simp only [List.getElem_cons_succ] at this; exact this)) hn'
    rcases h0 with ⟨rfl, rfl⟩ | ⟨hne, id, v, rfl, hs⟩
    · obtain ⟨st'', h2⟩ := hr st fun _ _ _ h => h
      refine ⟨st'', ?_⟩
      simp only [List.map_cons, freezeLL, freezeL, freezeC, AV.isPure, AV.isCell, AV.view, Bool.and_self, if_true, h2, rowV]
    · obtain ⟨st'', h2⟩ := hr (st.set id (.rows (v + 1) 1 [])) fun c' hc' r' h => h.set (fun e => by
        obtain ⟨k, hk, rfl⟩ := List.mem_iff_getElem.1 hc'
        exact hn 0 (k + 1) (by simp) (by simp; exact hk) (by omega) id (by simp [idOf]) (by simpa only [List.getElem_cons_succ] using e)) _
      refine ⟨st'', ?_⟩
      have he : (ints r).isEmpty = false := by cases r with
        | nil => exact absurd rfl hne
        | cons a r => rfl
      simp only [List.map_cons, freezeLL, freezeL, freezeC, hs, ints_pure, ints_view, he, Nat.zero_le, decide_true, Bool.not_false, Bool.and_self, if_true, h2, rowV, hne, if_false]

theorem Rw.frz (h : Rw st q v T cs) (hT : T ≠ []) : ∃ st', freezeV 0 (.mu q v) st = some (.lst 1 (T.map fun r => [rowV r]), st') := by
  obtain ⟨st', h1⟩ := frz_rows cs T (st.set q (.rows (v + 1) 1 [])) h.len (fun k hk hk2 => (h.el k hk hk2).set (h.qn _ (List.getElem_mem hk)) _) h.nd
  refine ⟨st', ?_⟩
  have hne : (cs.map fun c => [c]).isEmpty = false := by
    have := h.len
    cases cs with
    | nil => cases T with
      | nil => exact absurd rfl hT
      | cons => simp at this
    | cons => rfl
  simp only [freezeV, h.lst, hne, Bool.not_false, decide_true, Bool.and_self, if_true, Nat.zero_le, h1]

theorem rowV_I (r : List Int) : isI (rowV r) = true ∧ dI (rowV r) = r := by
  unfold rowV
  split
  · rename_i h; subst h; exact ⟨rfl, rfl⟩
  · constructor <;> simp
end U22

namespace U22
open Ax Go Code22
set_option maxRecDepth 100000

def chainT (n : Nat) : List (List Int) := (List.range n).map fun i : Nat => [-1, (i : Int) + 1]
theorem chainT_succ (n : Nat) : chainT (n + 1) = chainT n ++ [[-1, (n : Int) + 1]] := by simp [chainT, List.range_succ]
@[simp] theorem chainT_len (n : Nat) : (chainT n).length = n := by simp [chainT]

theorem a_litMa {wl lim a : Nat} {st : Store} {bx : Boxes} : act0 wl lim (.litM 1 1 [.nilSl] [0]) [.val (.mu a 0)] st bx = some (.val (.mu st.length 0), st ++ [.rows 0 1 [[.mu a 0]]], bx) := rfl
theorem a_litM2 {wl lim : Nat} {a b : Int} {st : Store} {bx : Boxes} : act0 wl lim (.litM 1 2 [.int .i64 0] [0, 1]) [.val (.int .i64 a), .val (.int .i64 b)] st bx = some (.val (.mu st.length 0), st ++ [.rows 0 1 [[.int .i64 a], [.int .i64 b]]], bx) := rfl
theorem a_litMn {wl lim : Nat} {st : Store} {bx : Boxes} : act0 wl lim (.litM 1 1 [.nilSl] [0]) [.val .nilSl] st bx = some (.val (.mu st.length 0), st ++ [.rows 0 1 [[.nilSl]]], bx) := rfl
theorem a_app0 {c : AV} {lim b : Nat} {st : Store} {bx : Boxes} (hc : c.view = c) (h : st[b]? = some (.rows 0 1 [[c]])) :
    act0 0 lim (.appendM 1 24) [.val .nilSl, .val (.mu b 0)] st bx = some (.val (.mu st.length 0), st ++ [.rows 0 1 [[c]]], bx) := by
  simp [act0, bringsOf, rowsOf, h, fits, AV.viewL, hc, room]
theorem a_appM {c : AV} {b q v : Nat} {old : List (List AV)} {st : Store} {bx : Boxes} (hc : c.view = c) (h : st[b]? = some (.rows 0 1 [[c]])) (h2 : st[q]? = some (.rows v 1 old)) (hr : (old.length + 1) * 24 ≤ room) :
    act0 0 0 (.appendM 1 24) [.val (.mu q v), .val (.mu b 0)] st bx = some (.val (.mu q (v + 1)), st.set q (.rows (v + 1) 1 (old ++ [[c]])), bx) := by
  simp [act0, bringsOf, rowsOf, h, h2, fits, AV.viewL, hc, hr]

structure CI (i : Nat) (st : Store) (l : AV) : Prop where
  h : (i = 0 ∧ st = [] ∧ l = .nilSl) ∨ ∃ q v cs, l = .mu q v ∧ Rw st q v (chainT i) cs

theorem CI.step {i : Nat} {st : Store} {l : AV} (h : CI i st l) (hi : i < 100) : ∃ st' l', CI (i + 1) st' l' ∧
    ∀ (x : Int), x = (i : Int) + 1 → act0 0 0 (.appendM 1 24) [.val l, .val (.mu (st.length + 1) 0)] (st ++ [.rows 0 1 [[.int .i64 (-1)], [.int .i64 x]], .rows 0 1 [[.mu st.length 0]]]) [] = some (.val l', st', []) := by
  rcases h.h with ⟨rfl, rfl, rfl⟩ | ⟨q, v, cs, rfl, hR⟩
  · refine ⟨[.rows 0 1 [[.int .i64 (-1)], [.int .i64 1]], .rows 0 1 [[.mu 0 0]]] ++ [.rows 0 1 [[.mu 0 0]]], .mu 2 0, ⟨.inr ⟨2, 0, [.mu 0 0], rfl, ?_⟩⟩, fun x hx => ?_⟩
    · exact Rw.first (r := [-1, 1]) (.inr ⟨by simp, 0, 0, rfl, by simp [ints]⟩) rfl
    · subst hx
      simpa using a_app0 (c := .mu 0 0) (lim := 0) (b := 1) (st := [.rows 0 1 [[.int .i64 (-1)], [.int .i64 1]], .rows 0 1 [[.mu 0 0]]]) (bx := []) rfl rfl
  · refine ⟨(st ++ [AObj.rows 0 1 [[.int .i64 (-1)], [.int .i64 ((i : Int) + 1)]], AObj.rows 0 1 [[.mu st.length 0]]]).set q (AObj.rows (v + 1) 1 (cs.map (fun c => [c]) ++ [[.mu st.length 0]])), _, ⟨.inr ⟨q, v + 1, cs ++ [.mu st.length 0], rfl, ?_⟩⟩, fun x hx => ?_⟩
    · rw [chainT_succ]
      refine hR.push (.inr ⟨by simp, st.length, 0, rfl, by simp [ints]⟩) (by simp [idOf])
    · subst hx
      have := hR.len
      exact a_appM rfl (by simp) (app_some hR.lst _) (by simp at *; simp [room]; omega)

/-- The list of the chain's fields; round a ring the last leads to the first. -/
def fieldsT (n : Nat) (ring : Bool) : List (List Int) := if ring then (chainT n).set (n - 1) [-1, 0] else chainT n

theorem fieldsT_len (n : Nat) (ring : Bool) : (fieldsT n ring).length = n := by
  unfold fieldsT; split <;> simp

theorem chainT_get (n i : Nat) (_ : i < n) (h2 : i < (chainT n).length) : (chainT n)[i] = [-1, (i : Int) + 1] := by simp [chainT]

theorem frozen_II (T : List (List Int)) : isII (.lst 1 (T.map fun r => [rowV r])) = true ∧ dII (.lst 1 (T.map fun r => [rowV r])) = T ∧ (els (.lst 1 (T.map fun r => [rowV r]))).length = T.length := by
  refine ⟨?_, ?_, ?_⟩
  · simp only [isII, isSz, rowsL, List.all_map, Bool.and_eq_true, List.all_eq_true, beq_iff_eq]
    refine ⟨?_, fun r _ => (rowV_I r).1⟩
    simp [fits]
  · simp only [dII, els, rowsL, List.map_map]
    conv => rhs; rw [← List.map_id T]
    exact List.map_congr_left fun r _ => (rowV_I r).2
  · simp [els, rowsL]

/-! ### What a chain reaches -/
theorem idxs_from (m : List Bool) (a : Nat) : ∀ i, (∀ c, c < i → m.getD c false = decide (a ≤ c)) → idxs m i = (List.range' a (i - a)).map fun c : Nat => (c : Int)
  | 0, _ => by simp [idxs]
  | i + 1, h => by
    simp only [idxs, idxs_from m a i fun c hc => h c (by omega), h i (by omega)]
    by_cases e : a ≤ i
    · rw [show i + 1 - a = (i - a) + 1 by omega, List.range'_concat]
      simp [e]
    · rw [show i + 1 - a = i - a by omega]
      simp [e]
theorem numsB_to (p : Nat → Bool) (a : Nat) : ∀ i, (∀ c, c < i → p c = decide (c ≤ a)) → numsB p i = (List.range (min i (a + 1))).map fun c : Nat => (c : Int)
  | 0, _ => by simp [numsB]
  | i + 1, h => by
    simp only [numsB, numsB_to p a i fun c hc => h c (by omega), h i (by omega)]
    by_cases e : i ≤ a
    · rw [show min (i + 1) (a + 1) = min i (a + 1) + 1 by omega, List.range_succ]
      simp [e]; omega
    · rw [show min (i + 1) (a + 1) = min i (a + 1) by omega]
      simp [e]

theorem fields_next {n : Nat} {ring : Bool} {c : Nat} (_ : c < n) (h2 : c < (fieldsT n ring).length) : (fieldsT n ring)[c] = if ring ∧ c = n - 1 then [-1, 0] else [-1, (c : Int) + 1] := by
  unfold fieldsT
  cases ring with
  | false => simp [chainT]
  | true =>
    simp only [if_true, true_and]
    rw [List.getElem_set]
    by_cases e : n - 1 = c
    · simp [e]
    · rw [if_neg e, if_neg (Ne.symm e)]; simp [chainT]

theorem chain_reach {n a : Nat} {ring : Bool} (ha : a < n) (c : Nat) : Reach (fieldsT n ring) [(a : Int)] c ↔ c < n ∧ (ring = true ∨ a ≤ c) := by
  have hl := fieldsT_len n ring
  have up : ∀ d, a + d < n → Reach (fieldsT n ring) [(a : Int)] (a + d) := by
    intro d
    induction d with
    | zero => exact fun h => .root a (by omega) (by simp)
    | succ d ih =>
      intro h
      refine .step (a + d) (a + d + 1) (by omega) (by omega) (ih (by omega)) ?_
      rw [fields_next (by omega)]
      rw [if_neg (by omega)]
      simp
  constructor
  · intro h
    induction h with
    | root c hc hm =>
      simp at hm
      exact ⟨by omega, .inr (by omega)⟩
    | step c d hc hd hr hm ih =>
      refine ⟨by omega, ?_⟩
      rcases ih.2 with h1 | h1
      · exact .inl h1
      · cases ring with
        | true => exact .inl rfl
        | false =>
          right
          rw [fields_next (by omega)] at hm
          simp at hm
          omega
  · rintro ⟨h1, h2⟩
    by_cases hac : a ≤ c
    · have := up (c - a) (by omega)
      rwa [show a + (c - a) = c by omega] at this
    · have hr : ring = true := by rcases h2 with h | h; exact h; omega
      subst hr
      have h0 : Reach (fieldsT n true) [(a : Int)] 0 := by
        have := up (n - 1 - a) (by omega)
        rw [show a + (n - 1 - a) = n - 1 by omega] at this
        refine .step (n - 1) 0 (by omega) (by omega) this ?_
        rw [fields_next (by omega)]
        simp
      have rest : ∀ d, d < n → Reach (fieldsT n true) [(a : Int)] d := by
        intro d
        induction d with
        | zero => exact fun _ => h0
        | succ d ih =>
          intro h
          refine .step d (d + 1) (by omega) (by omega) (ih (by omega)) ?_
          rw [fields_next (by omega), if_neg (by omega)]
          simp
      exact rest c h1

section
variable (g : List (List Int) → List Int → List Bool) (hg : ∀ F R, IsReach F R (g F R))
include hg

theorem chain_from {n a : Nat} {ring : Bool} (ha : a < n) : reachL g (fieldsT n ring) [(a : Int)] = (List.range' (if ring then 0 else a) (n - (if ring then 0 else a))).map fun c : Nat => (c : Int) := by
  unfold reachL
  rw [fieldsT_len]
  refine idxs_from _ _ _ fun c hc => ?_
  have h := (hg (fieldsT n ring) [(a : Int)]).2 c
  rw [chain_reach ha] at h
  rw [Bool.eq_iff_iff, h]
  cases ring <;> simp [hc]

theorem chain_into {n a : Nat} {ring : Bool} (ha : a < n) : numsB (intoP g (fieldsT n ring) (a : Int)) n = (List.range (if ring then n else a + 1)).map fun c : Nat => (c : Int) := by
  rw [numsB_to _ (if ring then n else a)]
  · congr 2
    cases ring
    · simp; omega
    · simp
  · intro c hc
    unfold intoP
    rw [chain_from g hg hc]
    rw [decide_eq_decide]
    cases ring
    · simp; omega
    · simp; omega
end
end U22

namespace U22
open Ax Go Code22
set_option maxRecDepth 100000
set_option maxHeartbeats 1000000

section
variable (g : List (List Int) → List Int → List Bool) (hg : ∀ F R, IsReach F R (g F R))
include hg

/-- From the fields on: what the chain's law does with them. -/
theorem law_chain (n a : Int) (ring : Bool) : (orcL S).call 0 0 6 [.int .i64 n, .int .i64 a, .bool ring] [] = some (.bool true, []) := by
  refine call_pure (sf := s6) rfl rfl (by simp [*]) rfl (by simp [*]) ?_
  by_cases g1 : n < 1
  · simp [s6, g1]
  by_cases g2 : 60 < n
  · simp [s6, g1, g2]
  by_cases g3 : a < 0
  · simp [s6, g1, g2, g3]
  by_cases g4 : n ≤ a
  · simp [s6, g1, g2, g3, g4]
  obtain ⟨N, rfl⟩ : ∃ N : Nat, n = N := ⟨n.toNat, by omega⟩
  obtain ⟨A, rfl⟩ : ∃ A : Nat, a = A := ⟨a.toNat, by omega⟩
  have hAN : A < N := by omega
  have hk := fun wl lim st => call_any (S := S) (f := 14) (sf := s14) rfl rfl rfl known0 wl lim st
  simp [s6, g1, g2, g3, g4]
  refine W_loopI s6_l0.eq_1 (fun x : Nat × Store × AV => ⟨[(0, .val (.int .i64 N)), (1, .val (.int .i64 A)), (2, .val (.bool ring)), (7, .val x.2.2), (8, .val (.int .i64 x.1))], [], x.2.1⟩) (fun x => x.1 ≤ N ∧ CI x.1 x.2.1 x.2.2) (fun x => N - x.1) (0, [], .nilSl) rfl ⟨by simp, ⟨.inl ⟨rfl, rfl, rfl⟩⟩⟩ ?_
  rintro ⟨i, st, l⟩ ⟨hi, hc⟩ ih
  simp only at hi hc ih ⊢
  by_cases hlt : i < N
  · have hw : IntKind.i64.wrap ((i : Int) + 1) = ((i + 1 : Nat) : Int) := by rw [wrap64] <;> omega
    obtain ⟨st', l', hc', ha⟩ := hc.step (by omega)
    simp [hlt, hw, a_litM2, a_litMa, ha _ rfl]
    exact ih (i + 1, st', l') ⟨by simp only; omega, hc'⟩ (by simp only; omega)
  · have hiN : i = N := by omega
    subst hiN
    obtain ⟨q, v, cs, rfl, hR⟩ : ∃ q v cs, l = .mu q v ∧ Rw st q v (chainT i) cs := by
      rcases hc.h with ⟨h, _⟩ | h
      · omega
      · exact h
    have hlen := hR.len
    rw [chainT_len] at hlen
    have tail : ∀ st2 cs2, Rw st2 q v (fieldsT i ring) cs2 → ∃ st3, freezeV 0 (.mu q v) st2 = some (.lst 1 ((fieldsT i ring).map fun r => [rowV r]), st3) := fun st2 cs2 h =>
      h.frz fun e => by have := fieldsT_len i ring; rw [e] at this; simp at this; omega
    obtain ⟨f1, f2, f3⟩ := frozen_II (fieldsT i ring)
    rw [fieldsT_len] at f3
    have hx : ∀ x ∈ dII (.lst 1 ((fieldsT i ring).map fun r => [rowV r])), x.length ≤ 100 := by
      rw [f2]
      intro x hx
      obtain ⟨k, hk, rfl⟩ := List.mem_iff_getElem.1 hx
      rw [fields_next (by rw [fieldsT_len] at hk; exact hk)]
      split <;> simp
    have e1 := fun wl lim s => fromE g hg wl lim (.lst 1 ((fieldsT i ring).map fun r => [rowV r])) (.lst 1 [[.int .i64 A]]) s f1 (by simp) (by omega) hx (by simp)
    have e2 := fun wl lim s => into_ok g hg wl lim (.lst 1 ((fieldsT i ring).map fun r => [rowV r])) A s f1 (by omega) hx
    simp only [f2, f3, chain_into g hg hAN] at e2
    simp only [f2, show dI (.lst 1 [[.int .i64 (A : Int)]]) = [(A : Int)] from rfl, chain_from g hg hAN] at e1
    have hw2 : IntKind.i64.wrap ((i : Int) - A) = ((i - A : Nat) : Int) := by rw [wrap64] <;> omega
    have hpos : 0 < i - A := by omega
    have hw3 : IntKind.i64.wrap ((i : Int) - 1) = ((i - 1 : Nat) : Int) := by rw [wrap64] <;> omega
    have hw4 : IntKind.i64.wrap ((A : Int) + 1) = ((A + 1 : Nat) : Int) := by rw [wrap64] <;> omega
    cases ring with
    | false =>
      obtain ⟨st3, h3⟩ := tail st cs (by simpa [fieldsT] using hR)
      simp
      rw [W_frz]
      refine ⟨_, _, st3, rfl, h3, ?_⟩
      simp [e1, e2, hw2, hw4, hk, hpos]
    | true =>
      have hcl : i - 1 < cs.length := by omega
      have hl1 : (i - 1 : Nat) < (chainT i).length := by simp; omega
      obtain ⟨id, w, h1, h2⟩ : ∃ id w, cs[i - 1] = .mu id w ∧ st[id]? = some (.rows w 1 (ints (chainT i)[i - 1])) := by
        rcases hR.el (i - 1) hcl hl1 with ⟨_, h⟩ | ⟨_, id, w, h1, h2⟩
        · rw [chainT_get _ _ (by omega)] at h; cases h
        · exact ⟨id, w, h1, h2⟩
      rw [chainT_get _ _ (by omega)] at h2
      obtain ⟨st3, h3⟩ := tail _ cs (by simpa [fieldsT] using hR.setRow (k := i - 1) hcl h1 (r := [-1, 0]) (by simp))
      have hq := hR.lst
      simp [hw3, hq, hcl, h1, h2, ints, AV.view, oneOrAgg]
      rw [W_frz]
      refine ⟨_, _, st3, rfl, h3, ?_⟩
      simp [e1, e2, hk]
end
end U22

namespace U22
open Ax Go Code22
set_option maxRecDepth 100000
set_option maxHeartbeats 1000000

structure MI (F : List (List Int)) (i : Nat) (st : Store) (l : AV) : Prop where
  h : (i = 0 ∧ st = [] ∧ l = .nilSl) ∨ ∃ q v cs, l = .mu q v ∧ Rw st q v (F.take i) cs

/-- A row copied into a cell. -/
theorem copy_row (st : Store) (r : List Int) (hr : r.length ≤ 1000) : ∃ c l, c.view = c ∧ El (st ++ l) c r ∧ (∀ i ∈ idOf c, st.length ≤ i) ∧
    (∀ (x : AV), isI x = true → dI x = r → act0 0 0 (.appendM 1 8) [.val .nilSl, .val x] st [] = some (.val c, st ++ l, [])) ∧
    (∀ st bx, act0 0 0 (.litM 1 1 [.nilSl] [0]) [.val c] st bx = some (.val (.mu st.length 0), st ++ [.rows 0 1 [[c]]], bx)) := by
  by_cases h : r = []
  · subst h
    refine ⟨.nilSl, [], rfl, .inl ⟨rfl, rfl⟩, by simp [idOf], fun x hx hd => ?_, fun _ _ => rfl⟩
    simp [hx, rowsL_I hx, hd, ints, fits]
  · refine ⟨.mu st.length 0, [.rows 0 1 (ints r)], rfl, .inr ⟨h, _, _, rfl, by simp⟩, by simp [idOf], fun x hx hd => ?_, fun _ _ => rfl⟩
    have : r.length * 8 ≤ room := by simp [room]; omega
    have h2 : ints r ≠ [] := by simpa [ints] using h
    simp [hx, rowsL_I hx, hd, this, h2]

theorem MI.step {F : List (List Int)} {i : Nat} {st : Store} {l : AV} (h : MI F i st l) (hi : i < F.length) (hF : F.length ≤ 1000) (hr : F[i].length ≤ 1000) : ∃ c st1 st' l', MI F (i + 1) st' l' ∧
    (∀ (x : AV), isI x = true → dI x = F[i] → act0 0 0 (.appendM 1 8) [.val .nilSl, .val x] st [] = some (.val c, st1, [])) ∧
    (act0 0 0 (.litM 1 1 [.nilSl] [0]) [.val c] st1 [] = some (.val (.mu st1.length 0), st1 ++ [.rows 0 1 [[c]]], [])) ∧
    act0 0 0 (.appendM 1 24) [.val l, .val (.mu st1.length 0)] (st1 ++ [.rows 0 1 [[c]]]) [] = some (.val l', st', []) := by
  obtain ⟨c, l1, c1, c2, c3, c4, c5⟩ := copy_row st F[i] hr
  refine ⟨c, st ++ l1, ?_⟩
  rcases h.h with ⟨rfl, rfl, rfl⟩ | ⟨q, v, cs, rfl, hR⟩
  · refine ⟨_, _, ⟨.inr ⟨_, 0, [c], rfl, ?_⟩⟩, c4, c5 _ _, a_app0 c1 (by simp)⟩
    rw [show F.take (0 + 1) = [F[0]] by rw [List.take_succ_eq_append_getElem (by omega)]; simp]
    exact Rw.first (c2.app _) rfl
  · have hlen := hR.len
    simp only [List.length_take] at hlen
    refine ⟨_, _, ⟨.inr ⟨q, v + 1, cs ++ [c], rfl, ?_⟩⟩, c4, c5 _ _, a_appM c1 (by simp) (app_some (app_some hR.lst _) _) (by simp [room]; omega)⟩
    rw [List.take_succ_eq_append_getElem hi, List.append_assoc]
    exact hR.push (by rw [← List.append_assoc]; exact c2.app _) c3

/-- A number put behind a row, the row's cell stored anew. -/
theorem Rw.grow {st : Store} {q v : Nat} {T : List (List Int)} {cs : List AV} (h : Rw st q v T cs) {k : Nat} (hk : k < cs.length) (hk2 : k < T.length) (x : Int) (hr : T[k].length ≤ 1000) :
    ∃ st1 c, Rw (st1.set q (.rows v 1 ((cs.map fun c => [c]).set k [c]))) q v (T.set k (T[k] ++ [x])) (cs.set k c) ∧ st1[q]? = st[q]? ∧ (c.cells = [c] ∧ c.isCell = true) ∧
      act0 0 0 (.appendM 1 8) [.val cs[k], .val (.lst 1 [[.int .i64 x]])] st [] = some (.val c, st1, []) := by
  have hq := h.q_lt
  have el := h.el k hk hk2
  have hm : ∀ c, (cs.map fun c => [c]).set k [c] = (cs.set k c).map fun c => [c] := fun c => by rw [List.map_set]
  rcases el with ⟨h1, h2⟩ | ⟨hne, id, w, h1, h2⟩
  · refine ⟨st ++ [.rows 0 1 [[.int .i64 x]]], .mu st.length 0, ?_, by rw [List.getElem?_append_left hq], ⟨rfl, rfl⟩, ?_⟩
    · rw [hm, h2]
      exact h.setCell hk (by rw [List.getElem?_append_left hq]) (.inr ⟨by simp, _, _, rfl, by simp [ints]⟩) (fun j hj hj2 _ => (h.el j hj hj2).app _) (by simp [idOf])
    · rw [h1]; simp [room, fits]
  · have hin : id ∈ idOf cs[k] := by rw [h1]; simp [idOf]
    have hid := h.ids_lt (List.getElem_mem hk) hin
    have hqid : id ≠ q := fun e => h.qn _ (List.getElem_mem hk) (e ▸ hin)
    refine ⟨st.set id (.rows (w + 1) 1 (ints (T[k] ++ [x]))), .mu id (w + 1), ?_, by rw [List.getElem?_set_ne hqid], ⟨rfl, rfl⟩, ?_⟩
    · rw [hm]
      exact h.setCell hk (by rw [List.getElem?_set_ne hqid]) (.inr ⟨by simp, _, _, rfl, List.getElem?_set_self hid⟩) (fun j hj hj2 hjk => (h.el j hj hj2).set (h.nd k j hk hj (Ne.symm hjk) id hin) _) (fun i hi => .inl (by rw [h1]; simpa [idOf] using hi))
    · rw [h1]
      have : (T[k].length + 1) * 8 ≤ room := by simp [room]; omega
      simp [h2, this, fits, ints]
      trace_state
end U22

namespace U22
open Ax Go Code22
set_option maxRecDepth 100000
set_option maxHeartbeats 1000000

/-- The fields with one more. -/
def moreT (F : List (List Int)) (c t : Nat) : List (List Int) := F.set c (F.getD c [] ++ [(t : Int)])

theorem moreT_len (F : List (List Int)) (c t : Nat) : (moreT F c t).length = F.length := by simp [moreT]
theorem moreT_get {F : List (List Int)} {c t k : Nat} (hk : k < F.length) (h2 : k < (moreT F c t).length) : (moreT F c t)[k] = if k = c then F[k] ++ [(t : Int)] else F[k] := by
  simp only [moreT, List.getElem_set]
  by_cases e : c = k
  · subst e
    rw [if_pos rfl, if_pos rfl]
    simp only [List.getD_eq_getElem?_getD, List.getElem?_eq_getElem hk, Option.getD_some]
  · rw [if_neg e, if_neg (Ne.symm e)]

theorem more_up {F : List (List Int)} {R : List Int} {c t : Nat} : ∀ d, Reach F R d → Reach (moreT F c t) R d := by
  intro d h
  induction h with
  | root d hd hm => exact .root d (by rw [moreT_len]; exact hd) hm
  | step a d ha hd hr hm ih =>
    refine .step a d (by rw [moreT_len]; exact ha) (by rw [moreT_len]; exact hd) ih ?_
    rw [moreT_get ha]
    split
    · exact List.mem_append.2 (.inl hm)
    · exact hm
theorem more_down {F : List (List Int)} {R : List Int} {c t : Nat} (h : Reach F R c → Reach F R t) : ∀ d, Reach (moreT F c t) R d → Reach F R d := by
  intro d hd
  induction hd with
  | root d hd hm => exact .root d (by rw [moreT_len] at hd; exact hd) hm
  | step a d ha hd hr hm ih =>
    rw [moreT_len] at ha hd
    rw [moreT_get ha] at hm
    split at hm
    · rename_i e
      rcases List.mem_append.1 hm with h1 | h1
      · exact .step a d ha hd ih h1
      · have : d = t := by have := List.mem_singleton.1 h1; omega
        subst this
        exact h (e ▸ ih)
    · exact .step a d ha hd ih hm

section
variable (g : List (List Int) → List Int → List Bool) (hg : ∀ F R, IsReach F R (g F R))
include hg

theorem mem_nat {F : List (List Int)} {R : List Int} {c : Nat} : (c : Int) ∈ reachL g F R ↔ Reach F R c := by
  rw [mem_reachL g hg]
  constructor
  · rintro ⟨d, h1, h2⟩
    have : c = d := by omega
    subst this; exact h2
  · exact fun h => ⟨c, rfl, h⟩
theorem more_all {F : List (List Int)} {R : List Int} {c t : Nat} : ∀ x ∈ reachL g F R, x ∈ reachL g (moreT F c t) R := by
  intro x hx
  obtain ⟨d, rfl, hd⟩ := (mem_reachL g hg).1 hx
  exact (mem_nat g hg).2 (more_up d hd)
theorem more_same {F : List (List Int)} {R : List Int} {c t : Nat} (hc : c < F.length) (ht : t < F.length) : reachL g F R = reachL g (moreT F c t) R ↔ ((c : Int) ∉ reachL g F R ∨ (t : Int) ∈ reachL g F R) := by
  rw [mem_nat g hg, mem_nat g hg]
  constructor
  · intro e
    by_cases h : Reach F R c
    · right
      have h1 : Reach (moreT F c t) R t := .step c t (by rw [moreT_len]; exact hc) (by rw [moreT_len]; exact ht) (more_up c h) (by rw [moreT_get hc, if_pos rfl]; simp)
      rw [← mem_nat g hg, ← e, mem_nat g hg] at h1
      exact h1
    · exact .inl h
  · intro h
    refine rising_ext (idxs_rising _ _) (idxs_rising _ _) fun x => ⟨more_all g hg x, fun hx => ?_⟩
    obtain ⟨d, rfl, hd⟩ := (mem_reachL g hg).1 hx
    refine (mem_nat g hg).2 (more_down (fun h1 => ?_) d hd)
    rcases h with h | h
    · exact absurd h1 h
    · exact h

theorem law_more (f r : AV) (c t : Int) (hf : isII f = true) (hr : isI r = true) : (orcL S).call 0 0 7 [f, r, .int .i64 c, .int .i64 t] [] = some (.bool true, []) := by
  refine call_pure (sf := s7) rfl rfl (by simp [*]) rfl (by simp [*]) ?_
  by_cases hgr : 60 < (dII f).length ∨ ∃ x ∈ dII f, 30 < x.length
  · have hgt := fun wl lim s => great_ok wl lim f.view s (by simpa using hf)
    simp only [dII_view, decide_eq_true hgr] at hgt
    simp [s7, hgt]
  have hgt := fun wl lim s => great_ok wl lim f.view s (by simpa using hf)
  simp only [dII_view, decide_eq_false hgr] at hgt
  obtain ⟨b1, b2⟩ := great_bounds hgr
  have b3 : (els f).length ≤ 100 := by omega
  have b4 : ∀ x ∈ dII f, x.length ≤ 100 := fun x hx => by have := b2 x hx; omega
  have hFl : (dII f).length = (els f).length := dII_len f
  by_cases h60 : (60 : Int) < ((dI r).length : Int)
  · simp [s7, hgt, hr, rowsL_I hr, h60]
  by_cases g1 : c < 0
  · simp [s7, hgt, hr, rowsL_I hr, h60, g1]
  by_cases g2 : ((els f).length : Int) ≤ c
  · simp [s7, hgt, hr, rowsL_I hr, h60, g1, hf, rowsL_II hf, g2]
  by_cases g3 : t < 0
  · simp [s7, hgt, hr, rowsL_I hr, h60, g1, hf, rowsL_II hf, g2, g3]
  by_cases g4 : ((els f).length : Int) ≤ t
  · simp [s7, hgt, hr, rowsL_I hr, h60, g1, hf, rowsL_II hf, g2, g3, g4]
  obtain ⟨C, rfl⟩ : ∃ C : Nat, c = C := ⟨c.toNat, by omega⟩
  obtain ⟨X, rfl⟩ : ∃ X : Nat, t = X := ⟨t.toNat, by omega⟩
  have hC : C < (dII f).length := by omega
  have hX : X < (dII f).length := by omega
  have hk := fun wl lim st => call_any (S := S) (f := 14) (sf := s14) rfl rfl rfl known0 wl lim st
  simp [s7, hgt, hr, rowsL_I hr, h60, g1, hf, rowsL_II hf, g2, g3, g4]
  refine W_loopI s7_l0.eq_1 (fun x : Nat × Store × AV => ⟨[(0, .val f), (1, .val r), (2, .val (.int .i64 C)), (3, .val (.int .i64 X)), (9, .val x.2.2), (10, .val (.int .i64 x.1))], [], x.2.1⟩) (fun x => x.1 ≤ (els f).length ∧ MI (dII f) x.1 x.2.1 x.2.2) (fun x => (els f).length - x.1) (0, [], .nilSl) rfl ⟨by simp, ⟨.inl ⟨rfl, rfl, rfl⟩⟩⟩ ?_
  rintro ⟨i, st, l⟩ ⟨hi, hc⟩ ih
  simp only at hi hc ih ⊢
  by_cases hlt : i < (els f).length
  · have hw : IntKind.i64.wrap ((i : Int) + 1) = ((i + 1 : Nat) : Int) := by rw [wrap64] <;> omega
    have hiF : i < (dII f).length := by omega
    have hIk := isI_els hf i hlt
    have hd := dII_get i hlt
    obtain ⟨c0, st1, st', l', hc', a1, a2, a3⟩ := hc.step hiF (by omega) (by have := b4 _ (List.getElem_mem hiF); omega)
    have a1' := a1 (els f)[i].view (by simpa using hIk) (by simpa using hd.symm)
    have a1'' := a1 (els f)[i] hIk hd.symm
    simp [hlt, hw, hf, rowsL_II hf, a1', a2, a3, -a_appendM, -a_appendM0]
    exact ih (i + 1, st', l') ⟨by simp only; omega, hc'⟩ (by simp only; omega)
  · have hiN : i = (els f).length := by omega
    subst hiN
    obtain ⟨q, v, cs, rfl, hR⟩ : ∃ q v cs, l = .mu q v ∧ Rw st q v (dII f) cs := by
      rcases hc.h with ⟨h, _⟩ | ⟨q, v, cs, h1, h2⟩
      · omega
      · rw [List.take_of_length_le (by omega)] at h2; exact ⟨q, v, cs, h1, h2⟩
    have hlen := hR.len
    have hCc : C < cs.length := by omega
    obtain ⟨st1, cc, hR2, hq1, hcell, ha⟩ := hR.grow hCc hC X (by have := b4 _ (List.getElem_mem hC); omega)
    have hq := hR.lst
    rw [hq] at hq1
    have e0 : (dII f).set C ((dII f)[C] ++ [(X : Int)]) = moreT (dII f) C X := by
      unfold moreT
      simp only [List.getD_eq_getElem?_getD, List.getElem?_eq_getElem hC, Option.getD_some]
    rw [e0] at hR2
    obtain ⟨st3, h3⟩ := hR2.frz fun e => by have := moreT_len (dII f) C X; rw [e] at this; simp at this; omega
    have hv : (cs[C]).view = cs[C] := by
      rcases hR.el C hCc hC with ⟨h, _⟩ | ⟨_, id, w, h, _⟩ <;> rw [h] <;> rfl
    obtain ⟨f1, f2, f3⟩ := frozen_II (moreT (dII f) C X)
    rw [moreT_len] at f3
    have hx : ∀ x ∈ dII (.lst 1 ((moreT (dII f) C X).map fun r => [rowV r])), x.length ≤ 100 := by
      rw [f2]
      intro x hx
      obtain ⟨k, hk, rfl⟩ := List.mem_iff_getElem.1 hx
      rw [moreT_len] at hk
      have := b2 _ (List.getElem_mem hk)
      rw [moreT_get hk]
      split
      · simp; omega
      · omega
    have e1 := fun wl lim s => fromE g hg wl lim (.lst 1 ((moreT (dII f) C X).map fun r => [rowV r])) r s f1 hr (by omega) hx (by omega)
    have e2 := fun wl lim s => fromE g hg wl lim f r.view s hf (by simpa using hr) b3 b4 (by rw [dI_view]; omega)
    simp only [f2] at e1
    rw [dI_view] at e2
    have l1 : (reachL g (moreT (dII f) C X) (dI r)).length < 1000000000000 := by have := reachL_len g (moreT (dII f) C X) (dI r); rw [moreT_len] at this; omega
    have l2 : (reachL g (dII f) (dI r)).length < 1000000000000 := by have := reachL_len g (dII f) (dI r); omega
    have r1 := more_all g hg (F := dII f) (R := dI r) (c := C) (t := X)
    have r2 := more_same g hg (F := dII f) (R := dI r) (c := C) (t := X) hC hX
    simp [hf, rowsL_II hf, hq, hq1, hCc, hcell.1, hcell.2, paste, AV.allCells, hv, ha, oneOrAgg, AV.viewL, -a_appendM, -a_appendM0]
    rw [W_frz]
    refine ⟨_, _, st3, rfl, h3, ?_⟩
    have d3 : decide (∀ x ∈ reachL g (dII f) (dI r), x ∈ reachL g (moreT (dII f) C X) (dI r)) = true := decide_eq_true r1
    generalize reachL g (dII f) (dI r) = L1 at *
    generalize reachL g (moreT (dII f) C X) (dI r) = L2 at *
    by_cases m1 : (C : Int) ∈ L1
    · by_cases m2 : (X : Int) ∈ L1
      · have d4 : decide (L1 = L2) = true := decide_eq_true (r2.2 (.inr m2))
        simp [e1, e2, in_ok, all2_ok, ints_ok, l1, l2, m1, m2, d3, d4, hk]
      · have d4 : decide (L1 = L2) = false := decide_eq_false fun e => by
          rcases r2.1 e with h | h
          · exact h m1
          · exact m2 h
        simp [e1, e2, in_ok, all2_ok, ints_ok, l1, l2, m1, m2, d3, d4, hk]
    · have d4 : decide (L1 = L2) = true := decide_eq_true (r2.2 (.inl m1))
      simp [e1, e2, in_ok, all2_ok, ints_ok, l1, l2, m1, d3, d4, hk]
end
end U22
