/-
  Lists of texts, types, as those who run see them.
-/
import Derived.Test.YthhebfamepmagaaA6

namespace V7
open Ax Go

/-! ### Lists of rows -/

/-- A list that is no list of one's own. -/
def notOwn : AV → Bool
  | .own _ _ => false
  | _ => true
theorem view_notOwn {v : AV} (h : notOwn v = true) (hs : isSl v = true) : v.view = v := by cases v <;> simp_all [notOwn, isSl, AV.view]
@[simp] theorem notOwn_view (v : AV) : notOwn v.view = true := by cases v <;> simp [notOwn, AV.view]

def isRows (sz : Nat) (p : List AV → Bool) (v : AV) : Bool := notOwn v && isSz sz v && (rowsL v).all p
theorem isRows_sz {sz : Nat} {p : List AV → Bool} {v : AV} (h : isRows sz p v = true) : isSz sz v = true := by simp only [isRows, Bool.and_eq_true] at h; exact h.1.2
theorem isRows_all {sz : Nat} {p : List AV → Bool} {v : AV} (h : isRows sz p v = true) : ∀ r ∈ rowsL v, p r = true := by simp only [isRows, Bool.and_eq_true, List.all_eq_true] at h; exact h.2
theorem isRows_vw {sz : Nat} {p : List AV → Bool} {v : AV} (h : isRows sz p v = true) : v.view = v := by
  have h2 := isSl_sz (isRows_sz h)
  simp only [isRows, Bool.and_eq_true] at h
  exact view_notOwn h.1.1 h2
theorem rows_map {α : Type} {sz : Nat} {p : List AV → Bool} {d : List AV → α} {e : α → List AV} {v : AV} (h : isRows sz p v = true) (he : ∀ r, p r = true → r = e (d r)) : rowsL v = ((rowsL v).map d).map e := by
  rw [List.map_map]
  conv => lhs; rw [← List.map_id (rowsL v)]
  exact List.map_congr_left fun r hr => he r (isRows_all h r hr)

def inR (n : Int) : Bool := decide (-9223372036854775808 ≤ n) && decide (n ≤ 9223372036854775807)

/-! ### Types -/
structure T3 where
  b : Int
  r : Int
  d : Int
  deriving DecidableEq
abbrev T0 : T3 := ⟨0, 0, 0⟩
@[simp] def T3.cells (t : T3) : List AV := [.int .i64 t.b, .int .i64 t.r, .int .i64 t.d]
def tyRow (r : List AV) : Bool := match r with | [.int .i64 a, .int .i64 b, .int .i64 c] => inR a && inR b && inR c | _ => false
def dT (r : List AV) : T3 := match r with | [.int .i64 a, .int .i64 b, .int .i64 c] => ⟨a, b, c⟩ | _ => T0
theorem tyRow_eq (r : List AV) (h : tyRow r = true) : r = (dT r).cells := by
  unfold tyRow at h
  split at h
  · rfl
  · cases h
def isTs (v : AV) : Bool := isRows 3 tyRow v
def dTs (v : AV) : List T3 := (rowsL v).map dT
theorem rowsL_T {v : AV} (h : isTs v = true) : rowsL v = (dTs v).map T3.cells := rows_map h tyRow_eq
theorem isTs_vw {v : AV} (h : isTs v = true) : v.view = v := isRows_vw h
@[simp] theorem dTs_view (v : AV) : dTs v.view = dTs v := by simp [dTs]
@[simp] theorem isSz_T {v : AV} (h : isTs v = true) : isSz 3 v = true := isRows_sz h
@[simp] theorem isSl_T {v : AV} (h : isTs v = true) : isSl v = true := isSl_sz (isSz_T h)


/-! ### Texts -/
def stRow (r : List AV) : Bool := match r with | [.str _] => true | _ => false
def dSt (r : List AV) : List UInt8 := match r with | [.str s] => s | _ => []
def isSts (v : AV) : Bool := isRows 1 stRow v
def dSts (v : AV) : List (List UInt8) := (rowsL v).map dSt
theorem stRow_eq (r : List AV) (h : stRow r = true) : r = [.str (dSt r)] := by
  unfold stRow at h
  split at h
  · rfl
  · cases h
theorem rowsL_St {v : AV} (h : isSts v = true) : rowsL v = (dSts v).map fun s => [.str s] := rows_map h stRow_eq
theorem isSts_vw {v : AV} (h : isSts v = true) : v.view = v := isRows_vw h
@[simp] theorem dSts_view (v : AV) : dSts v.view = dSts v := by simp [dSts]
@[simp] theorem isSz_St {v : AV} (h : isSts v = true) : isSz 1 v = true := isRows_sz h
@[simp] theorem isSl_St {v : AV} (h : isSts v = true) : isSl v = true := isSl_sz (isSz_St h)

/-! ### What holds of the first ones of a list -/
def nope {α : Type} (p : α → Bool) (l : List α) (k : Nat) : Prop := ∀ j (h : j < l.length), j < k → p l[j] = false
theorem nope_zero {α : Type} {p : α → Bool} {l : List α} : nope p l 0 := fun _ _ h => absurd h (by omega)
theorem nope_succ {α : Type} {p : α → Bool} {l : List α} {k : Nat} (h : nope p l k) (h1 : k < l.length) (hp : p l[k] = false) : nope p l (k + 1) := by
  intro j j1 hj
  rcases Nat.lt_or_ge j k with hjk | hjk
  · exact h j j1 hjk
  · have : j = k := by omega
    subst this; exact hp

/-- Where a text stands first; -1: nowhere. -/
def idxS (l : List (List UInt8)) (s : List UInt8) : Int := match l.findIdx? fun x => decide (x = s) with
  | some k => k
  | none => -1
theorem idxS_at {l : List (List UInt8)} {s : List UInt8} {k : Nat} (h : nope (fun x => decide (x = s)) l k) (hk : k < l.length) (e : l[k] = s) : idxS l s = k := by
  have : l.findIdx? (fun x => decide (x = s)) = some k := by
    rw [List.findIdx?_eq_some_iff_getElem]
    refine ⟨hk, by simpa using e, fun j hj => ?_⟩
    have := h j (by omega) hj
    simpa using this
  unfold idxS
  rw [this]
theorem idxS_none {l : List (List UInt8)} {s : List UInt8} (h : nope (fun x => decide (x = s)) l l.length) : idxS l s = -1 := by
  have : l.findIdx? (fun x => decide (x = s)) = none := by
    rw [List.findIdx?_eq_none_iff]
    intro x hx
    obtain ⟨j, hj, rfl⟩ := List.mem_iff_getElem.1 hx
    exact h j hj hj
  unfold idxS
  rw [this]
theorem idxS_ge (l : List (List UInt8)) (s : List UInt8) : idxS l s = -1 ∨ ∃ k : Nat, idxS l s = k ∧ k < l.length := by
  unfold idxS
  cases e : l.findIdx? fun x => decide (x = s) with
  | none => exact .inl rfl
  | some k => exact .inr ⟨k, rfl, (List.findIdx?_eq_some_iff_getElem.1 e).1⟩

/-- A written type, where records have names. -/
def typeT (l : List (List UInt8)) (s : List UInt8) (d : Int) : T3 × Bool :=
  if d < 0 ∨ 3 < d then (T0, false) else
  if s = [105, 110, 116] then (⟨1, 0, d⟩, true) else
  if s = [98, 111, 111, 108] then (⟨2, 0, d⟩, true) else
  if idxS l s < 0 then (T0, false) else (⟨3, idxS l s, d⟩, true)
def refT (t : T3) : Bool := decide (t.b = 3) || decide (0 < t.d)
/-! ### Parameters, records, functions, programs -/
structure PD where
  name : List UInt8
  on : List UInt8
  od : Int
  at_ : Int
def PD.cells (p : PD) : List AV := [.str p.name, .str p.on, .int .i64 p.od, .int .i64 p.at_]
def pdRow (r : List AV) : Bool := match r with | [.str _, .str _, .int .i64 d, .int .i64 a] => inR d && inR a | _ => false
def dP (r : List AV) : PD := match r with | [.str n, .str o, .int .i64 d, .int .i64 a] => ⟨n, o, d, a⟩ | _ => ⟨[], [], 0, 0⟩
theorem pdRow_eq (r : List AV) (h : pdRow r = true) : r = (dP r).cells := by
  unfold pdRow at h
  split at h
  · rfl
  · cases h
def isPs (v : AV) : Bool := isRows 4 pdRow v
def dPs (v : AV) : List PD := (rowsL v).map dP
theorem rowsL_P {v : AV} (h : isPs v = true) : rowsL v = (dPs v).map PD.cells := rows_map h pdRow_eq
theorem isPs_vw {v : AV} (h : isPs v = true) : v.view = v := isRows_vw h
@[simp] theorem dPs_view (v : AV) : dPs v.view = dPs v := by simp [dPs]
@[simp] theorem isSz_P {v : AV} (h : isPs v = true) : isSz 4 v = true := isRows_sz h
@[simp] theorem isSl_P {v : AV} (h : isPs v = true) : isSl v = true := isSl_sz (isSz_P h)

structure CR where
  name : List UInt8
  fields : AV
  at_ : Int
def CR.cells (r : CR) : List AV := [.str r.name, r.fields, .int .i64 r.at_]
def crRow (r : List AV) : Bool := match r with | [.str _, f, .int .i64 a] => isPs f && inR a | _ => false
def dCR (r : List AV) : CR := match r with | [.str s, f, .int .i64 a] => ⟨s, f, a⟩ | _ => ⟨[], .nilSl, 0⟩
theorem crRow_eq (r : List AV) (h : crRow r = true) : r = (dCR r).cells := by
  unfold crRow at h
  split at h
  · rfl
  · cases h
def isCRs (v : AV) : Bool := isRows 3 crRow v
def dCRs (v : AV) : List CR := (rowsL v).map dCR
theorem rowsL_CR {v : AV} (h : isCRs v = true) : rowsL v = (dCRs v).map CR.cells := rows_map h crRow_eq
theorem isCRs_get {v : AV} (h : isCRs v = true) : ∀ r ∈ dCRs v, isPs r.fields = true := by
  intro r hr
  obtain ⟨x, hx, rfl⟩ := List.mem_map.1 hr
  have := isRows_all h x hx
  unfold crRow at this
  unfold dCR
  split at this
  · simp only [Bool.and_eq_true] at this; exact this.1
  · cases this
theorem isCRs_vw {v : AV} (h : isCRs v = true) : v.view = v := isRows_vw h
@[simp] theorem dCRs_view (v : AV) : dCRs v.view = dCRs v := by simp [dCRs]
@[simp] theorem isSz_CR {v : AV} (h : isCRs v = true) : isSz 3 v = true := isRows_sz h
@[simp] theorem isSl_CR {v : AV} (h : isCRs v = true) : isSl v = true := isSl_sz (isSz_CR h)

structure FN where
  name : List UInt8
  params : AV
  has : Bool
  on : List UInt8
  od : Int
  body : AV
  at_ : Int
def FN.cells (f : FN) : List AV := [.str f.name, f.params, .bool f.has, .str f.on, .int .i64 f.od, f.body, .int .i64 f.at_]
def fnRow (r : List AV) : Bool := match r with | [.str _, p, .bool _, .str _, .int .i64 d, b, .int .i64 a] => isPs p && notOwn b && isSl b && inR d && inR a | _ => false
def dFN (r : List AV) : FN := match r with | [.str n, p, .bool h, .str o, .int .i64 d, b, .int .i64 a] => ⟨n, p, h, o, d, b, a⟩ | _ => ⟨[], .nilSl, false, [], 0, .nilSl, 0⟩
theorem fnRow_eq (r : List AV) (h : fnRow r = true) : r = (dFN r).cells := by
  unfold fnRow at h
  split at h
  · rfl
  · cases h
def isFNs (v : AV) : Bool := isRows 7 fnRow v
def dFNs (v : AV) : List FN := (rowsL v).map dFN
theorem rowsL_FN {v : AV} (h : isFNs v = true) : rowsL v = (dFNs v).map FN.cells := rows_map h fnRow_eq
theorem isFNs_get {v : AV} (h : isFNs v = true) : ∀ r ∈ dFNs v, isPs r.params = true ∧ notOwn r.body = true ∧ isSl r.body = true := by
  intro r hr
  obtain ⟨x, hx, rfl⟩ := List.mem_map.1 hr
  have := isRows_all h x hx
  unfold fnRow at this
  unfold dFN
  split at this
  · simp only [Bool.and_eq_true] at this; exact ⟨this.1.1.1.1, this.1.1.1.2, this.1.1.2⟩
  · cases this
theorem isFNs_vw {v : AV} (h : isFNs v = true) : v.view = v := isRows_vw h
@[simp] theorem dFNs_view (v : AV) : dFNs v.view = dFNs v := by simp [dFNs]
@[simp] theorem isSz_FN {v : AV} (h : isFNs v = true) : isSz 7 v = true := isRows_sz h
@[simp] theorem isSl_FN {v : AV} (h : isFNs v = true) : isSl v = true := isSl_sz (isSz_FN h)

structure GD where
  recs : AV
  globals : AV
  funcs : AV
def GD.cells (p : GD) : List AV := [p.recs, p.globals, p.funcs]
structure GD.ok (p : GD) : Prop where
  recs : isCRs p.recs = true
  globals : isPs p.globals = true
  funcs : isFNs p.funcs = true

/-! ### What is known ahead of all bodies -/

/-- The names of records, in order. -/
def recN (l : List CR) : List (List UInt8) := l.map (·.name)
/-- Fields as they are known. -/
def fldRow (rs : List (List UInt8)) (p : PD) : List AV := .str p.name :: (typeT rs p.on p.od).1.cells
def fldRows (rs : List (List UInt8)) (l : List PD) : List (List AV) := l.map (fldRow rs)
/-- The first of two faults. -/
def orF (a b : Option Int) : Option Int := match a with | some x => some x | none => b
/-- A parameter behind others: what is wrong with it. -/
def badP (rs : List (List UInt8)) (before : List PD) (p : PD) : Option Int := if before.any (fun q => decide (q.name = p.name)) || !(typeT rs p.on p.od).2 then some p.at_ else none
/-- What is wrong first with the first k of a list, each told behind those ahead of it. -/
def firstB {α : Type} (bad : List α → α → Option Int) (l : List α) : Nat → Option Int
  | 0 => none
  | k + 1 => orF (firstB bad l k) (match l[k]? with | some x => bad (l.take k) x | none => none)
def fltAV (a : Option Int) : List AV := match a with | some x => [.int .i64 3, .int .i64 x] | none => [.int .i64 0, .int .i64 0]
end V7
