/-
  Lists of texts, types, as those who run see them.
-/
import Derived.Test.YtkjajfhgdlhhhaaA6
import Derived.Test.YtkjajfhgdlhhhaaCode1
import Derived.KernelRfl

namespace V7
open Ax Go

/-! ### Lists of rows -/

/-- A list that is no list of one's own. -/
def notOwn : AV → Bool
  | .own _ _ => false
  | _ => true
theorem view_notOwn {v : AV} (h : notOwn v = true) (hs : isSl v = true) : v.view = v := by cases v <;> simp_all [notOwn, isSl, AV.view]
@[simp] theorem notOwn_view (v : AV) : notOwn v.view = true := by cases v <;> simp [notOwn, AV.view]

def isRows (sz : Nat) (p : List AV → Bool) (v : AV) : Bool := notOwn v && isSz sz v && (rowsL v).all p
theorem isRows_sz {sz : Nat} {p : List AV → Bool} {v : AV} (h : isRows sz p v = true) : isSz sz v = true := by simp only [isRows, Bool.and_eq_true] at h; exact h.1.2
theorem isRows_all {sz : Nat} {p : List AV → Bool} {v : AV} (h : isRows sz p v = true) : ∀ r ∈ rowsL v, p r = true := by simp only [isRows, Bool.and_eq_true, List.all_eq_true] at h; exact h.2
theorem isRows_vw {sz : Nat} {p : List AV → Bool} {v : AV} (h : isRows sz p v = true) : v.view = v := by
  have h2 := isSl_sz (isRows_sz h)
  simp only [isRows, Bool.and_eq_true] at h
  exact view_notOwn h.1.1 h2
theorem rows_map {α : Type} {sz : Nat} {p : List AV → Bool} {d : List AV → α} {e : α → List AV} {v : AV} (h : isRows sz p v = true) (he : ∀ r, p r = true → r = e (d r)) : rowsL v = ((rowsL v).map d).map e := by
  rw [List.map_map]
  conv => lhs; rw [← List.map_id (rowsL v)]
  exact List.map_congr_left fun r hr => he r (isRows_all h r hr)

def inR (n : Int) : Bool := decide (-9223372036854775808 ≤ n) && decide (n ≤ 9223372036854775807)

/-! ### Types -/
structure T3 where
  b : Int
  r : Int
  d : Int
  deriving DecidableEq
abbrev T0 : T3 := ⟨0, 0, 0⟩
@[simp] def T3.cells (t : T3) : List AV := [.int .i64 t.b, .int .i64 t.r, .int .i64 t.d]
def tyRow (r : List AV) : Bool := match r with | [.int .i64 a, .int .i64 b, .int .i64 c] => inR a && inR b && inR c | _ => false
def dT (r : List AV) : T3 := match r with | [.int .i64 a, .int .i64 b, .int .i64 c] => ⟨a, b, c⟩ | _ => T0
theorem tyRow_eq (r : List AV) (h : tyRow r = true) : r = (dT r).cells := by
  unfold tyRow at h
  split at h
  · rfl
  · cases h
def isTs (v : AV) : Bool := isRows 3 tyRow v
def dTs (v : AV) : List T3 := (rowsL v).map dT
theorem rowsL_T {v : AV} (h : isTs v = true) : rowsL v = (dTs v).map T3.cells := rows_map h tyRow_eq
theorem isTs_vw {v : AV} (h : isTs v = true) : v.view = v := isRows_vw h
@[simp] theorem dTs_view (v : AV) : dTs v.view = dTs v := by simp [dTs]
@[simp] theorem isSz_T {v : AV} (h : isTs v = true) : isSz 3 v = true := isRows_sz h
@[simp] theorem isSl_T {v : AV} (h : isTs v = true) : isSl v = true := isSl_sz (isSz_T h)


/-! ### Texts -/
def stRow (r : List AV) : Bool := match r with | [.str _] => true | _ => false
def dSt (r : List AV) : List UInt8 := match r with | [.str s] => s | _ => []
def isSts (v : AV) : Bool := isRows 1 stRow v
def dSts (v : AV) : List (List UInt8) := (rowsL v).map dSt
theorem stRow_eq (r : List AV) (h : stRow r = true) : r = [.str (dSt r)] := by
  unfold stRow at h
  split at h
  · rfl
  · cases h
theorem rowsL_St {v : AV} (h : isSts v = true) : rowsL v = (dSts v).map fun s => [.str s] := rows_map h stRow_eq
theorem isSts_vw {v : AV} (h : isSts v = true) : v.view = v := isRows_vw h
@[simp] theorem dSts_view (v : AV) : dSts v.view = dSts v := by simp [dSts]
@[simp] theorem isSz_St {v : AV} (h : isSts v = true) : isSz 1 v = true := isRows_sz h
@[simp] theorem isSl_St {v : AV} (h : isSts v = true) : isSl v = true := isSl_sz (isSz_St h)

/-! ### What holds of the first ones of a list -/
def nope {α : Type} (p : α → Bool) (l : List α) (k : Nat) : Prop := ∀ j (h : j < l.length), j < k → p l[j] = false
theorem nope_zero {α : Type} {p : α → Bool} {l : List α} : nope p l 0 := fun _ _ h => absurd h (by omega)
theorem nope_succ {α : Type} {p : α → Bool} {l : List α} {k : Nat} (h : nope p l k) (h1 : k < l.length) (hp : p l[k] = false) : nope p l (k + 1) := by
  intro j j1 hj
  rcases Nat.lt_or_ge j k with hjk | hjk
  · exact h j j1 hjk
  · have : j = k := by omega
    subst this; exact hp

/-- Where a text stands first; -1: nowhere. -/
def idxS (l : List (List UInt8)) (s : List UInt8) : Int := match l.findIdx? fun x => decide (x = s) with
  | some k => k
  | none => -1
theorem idxS_at {l : List (List UInt8)} {s : List UInt8} {k : Nat} (h : nope (fun x => decide (x = s)) l k) (hk : k < l.length) (e : l[k] = s) : idxS l s = k := by
  have : l.findIdx? (fun x => decide (x = s)) = some k := by
    rw [List.findIdx?_eq_some_iff_getElem]
    refine ⟨hk, by simpa using e, fun j hj => ?_⟩
    have := h j (by omega) hj
    simpa using this
  unfold idxS
  rw [this]
theorem idxS_none {l : List (List UInt8)} {s : List UInt8} (h : nope (fun x => decide (x = s)) l l.length) : idxS l s = -1 := by
  have : l.findIdx? (fun x => decide (x = s)) = none := by
    rw [List.findIdx?_eq_none_iff]
    intro x hx
    obtain ⟨j, hj, rfl⟩ := List.mem_iff_getElem.1 hx
    exact h j hj hj
  unfold idxS
  rw [this]
theorem idxS_ge (l : List (List UInt8)) (s : List UInt8) : idxS l s = -1 ∨ ∃ k : Nat, idxS l s = k ∧ k < l.length := by
  unfold idxS
  cases e : l.findIdx? fun x => decide (x = s) with
  | none => exact .inl rfl
  | some k => exact .inr ⟨k, rfl, (List.findIdx?_eq_some_iff_getElem.1 e).1⟩

/-- A written type, where records have names. -/
def typeT (l : List (List UInt8)) (s : List UInt8) (d : Int) : T3 × Bool :=
  if d < 0 ∨ 3 < d then (T0, false) else
  if s = [105, 110, 116] then (⟨1, 0, d⟩, true) else
  if s = [98, 111, 111, 108] then (⟨2, 0, d⟩, true) else
  if idxS l s < 0 then (T0, false) else (⟨3, idxS l s, d⟩, true)
def refT (t : T3) : Bool := decide (t.b = 3) || decide (0 < t.d)
/-! ### Parameters, records, functions, programs -/
structure PD where
  name : List UInt8
  on : List UInt8
  od : Int
  at_ : Int
def PD.cells (p : PD) : List AV := [.str p.name, .str p.on, .int .i64 p.od, .int .i64 p.at_]
def pdRow (r : List AV) : Bool := match r with | [.str _, .str _, .int .i64 d, .int .i64 a] => inR d && inR a | _ => false
def dP (r : List AV) : PD := match r with | [.str n, .str o, .int .i64 d, .int .i64 a] => ⟨n, o, d, a⟩ | _ => ⟨[], [], 0, 0⟩
theorem pdRow_eq (r : List AV) (h : pdRow r = true) : r = (dP r).cells := by
  unfold pdRow at h
  split at h
  · rfl
  · cases h
def isPs (v : AV) : Bool := isRows 4 pdRow v
def dPs (v : AV) : List PD := (rowsL v).map dP
theorem rowsL_P {v : AV} (h : isPs v = true) : rowsL v = (dPs v).map PD.cells := rows_map h pdRow_eq
theorem isPs_vw {v : AV} (h : isPs v = true) : v.view = v := isRows_vw h
@[simp] theorem dPs_view (v : AV) : dPs v.view = dPs v := by simp [dPs]
@[simp] theorem isSz_P {v : AV} (h : isPs v = true) : isSz 4 v = true := isRows_sz h
@[simp] theorem isSl_P {v : AV} (h : isPs v = true) : isSl v = true := isSl_sz (isSz_P h)

structure CR where
  name : List UInt8
  fields : AV
  at_ : Int
def CR.cells (r : CR) : List AV := [.str r.name, r.fields, .int .i64 r.at_]
def crRow (r : List AV) : Bool := match r with | [.str _, f, .int .i64 a] => isPs f && inR a | _ => false
def dCR (r : List AV) : CR := match r with | [.str s, f, .int .i64 a] => ⟨s, f, a⟩ | _ => ⟨[], .nilSl, 0⟩
theorem crRow_eq (r : List AV) (h : crRow r = true) : r = (dCR r).cells := by
  unfold crRow at h
  split at h
  · rfl
  · cases h
def isCRs (v : AV) : Bool := isRows 3 crRow v
def dCRs (v : AV) : List CR := (rowsL v).map dCR
theorem rowsL_CR {v : AV} (h : isCRs v = true) : rowsL v = (dCRs v).map CR.cells := rows_map h crRow_eq
theorem isCRs_get {v : AV} (h : isCRs v = true) : ∀ r ∈ dCRs v, isPs r.fields = true := by
  intro r hr
  obtain ⟨x, hx, rfl⟩ := List.mem_map.1 hr
  have := isRows_all h x hx
  unfold crRow at this
  unfold dCR
  split at this
  · simp only [Bool.and_eq_true] at this; exact this.1
  · cases this
theorem isCRs_vw {v : AV} (h : isCRs v = true) : v.view = v := isRows_vw h
@[simp] theorem dCRs_view (v : AV) : dCRs v.view = dCRs v := by simp [dCRs]
@[simp] theorem isSz_CR {v : AV} (h : isCRs v = true) : isSz 3 v = true := isRows_sz h
@[simp] theorem isSl_CR {v : AV} (h : isCRs v = true) : isSl v = true := isSl_sz (isSz_CR h)

structure FN where
  name : List UInt8
  params : AV
  has : Bool
  on : List UInt8
  od : Int
  body : AV
  at_ : Int
def FN.cells (f : FN) : List AV := [.str f.name, f.params, .bool f.has, .str f.on, .int .i64 f.od, f.body, .int .i64 f.at_]
def fnRow (r : List AV) : Bool := match r with | [.str _, p, .bool _, .str _, .int .i64 d, b, .int .i64 a] => isPs p && notOwn b && isSl b && inR d && inR a | _ => false
def dFN (r : List AV) : FN := match r with | [.str n, p, .bool h, .str o, .int .i64 d, b, .int .i64 a] => ⟨n, p, h, o, d, b, a⟩ | _ => ⟨[], .nilSl, false, [], 0, .nilSl, 0⟩
theorem fnRow_eq (r : List AV) (h : fnRow r = true) : r = (dFN r).cells := by
  unfold fnRow at h
  split at h
  · rfl
  · cases h
def isFNs (v : AV) : Bool := isRows 7 fnRow v
def dFNs (v : AV) : List FN := (rowsL v).map dFN
theorem rowsL_FN {v : AV} (h : isFNs v = true) : rowsL v = (dFNs v).map FN.cells := rows_map h fnRow_eq
theorem isFNs_get {v : AV} (h : isFNs v = true) : ∀ r ∈ dFNs v, isPs r.params = true ∧ notOwn r.body = true ∧ isSl r.body = true := by
  intro r hr
  obtain ⟨x, hx, rfl⟩ := List.mem_map.1 hr
  have := isRows_all h x hx
  unfold fnRow at this
  unfold dFN
  split at this
  · simp only [Bool.and_eq_true] at this; exact ⟨this.1.1.1.1, this.1.1.1.2, this.1.1.2⟩
  · cases this
theorem isFNs_vw {v : AV} (h : isFNs v = true) : v.view = v := isRows_vw h
@[simp] theorem dFNs_view (v : AV) : dFNs v.view = dFNs v := by simp [dFNs]
@[simp] theorem isSz_FN {v : AV} (h : isFNs v = true) : isSz 7 v = true := isRows_sz h
@[simp] theorem isSl_FN {v : AV} (h : isFNs v = true) : isSl v = true := isSl_sz (isSz_FN h)

structure GD where
  recs : AV
  globals : AV
  funcs : AV
def GD.cells (p : GD) : List AV := [p.recs, p.globals, p.funcs]
structure GD.ok (p : GD) : Prop where
  recs : isCRs p.recs = true
  globals : isPs p.globals = true
  funcs : isFNs p.funcs = true

/-! ### What is known ahead of all bodies -/

/-- The names of records, in order. -/
def recN (l : List CR) : List (List UInt8) := l.map (·.name)
/-- Fields as they are known. -/
def fldRow (rs : List (List UInt8)) (p : PD) : List AV := .str p.name :: (typeT rs p.on p.od).1.cells
def fldRows (rs : List (List UInt8)) (l : List PD) : List (List AV) := l.map (fldRow rs)
/-- The first of two faults. -/
def orF (a b : Option Int) : Option Int := match a with | some x => some x | none => b
/-- A parameter behind others: what is wrong with it. -/
def badP (rs : List (List UInt8)) (before : List PD) (p : PD) : Option Int := if before.any (fun q => decide (q.name = p.name)) || !(typeT rs p.on p.od).2 then some p.at_ else none
/-- What is wrong first with the first k of a list, each told behind those ahead of it. -/
def firstB {α : Type} (bad : List α → α → Option Int) (l : List α) : Nat → Option Int
  | 0 => none
  | k + 1 => orF (firstB bad l k) (match l[k]? with | some x => bad (l.take k) x | none => none)
def fltAV (a : Option Int) : List AV := match a with | some x => [.int .i64 3, .int .i64 x] | none => [.int .i64 0, .int .i64 0]
end V7

namespace U10
open Ax Go Code10
set_option maxRecDepth 100000
theorem known0 : (orcL S).call 0 0 20 [] [] = some (.bool true, []) := by
  have h : says ((korc S 100).call 0 0 20 [] []) = true := by kernel_rfl
  exact call_k (says_eq h)
end U10

namespace U10
open Ax Go Code10
set_option maxRecDepth 100000
set_option maxHeartbeats 1000000

@[simp] theorem eq_nn : eqK .ptr .nilPtr .nilPtr = some true := rfl
@[simp] theorem eq_pn {id v i k : Nat} : eqK .ptr (.ptr id v i k) .nilPtr = some false := rfl

/-! ### A Store that is not there -/
theorem nil_rec (wl lim : Nat) (n : Int) (st : Store) : (orcL S).call wl lim 9 [.nilPtr, .int .i64 n] st = some (.int .i64 0, st) := by
  refine call_run (sf := s9) rfl rfl rfl ?_
  simp [s9]
theorem nil_arr (wl lim : Nat) (n : Int) (st : Store) : (orcL S).call wl lim 11 [.nilPtr, .int .i64 n] st = some (.tup [.int .i64 0, .int .i64 1], st) := by
  refine call_run (sf := s11) rfl rfl rfl ?_
  simp [s11]
theorem nil_many (wl lim : Nat) (st : Store) : (orcL S).call wl lim 19 [.nilPtr] st = some (.int .i64 0, st) := by
  refine call_run (sf := s19) rfl rfl rfl ?_
  simp [s19]
theorem nil_cells (wl lim : Nat) (r : Int) (st : Store) : (orcL S).call wl lim 23 [.nilPtr, .int .i64 r] st = some (.tup [.nilSl, .bool false], st) := by
  refine call_run (sf := s23) rfl rfl rfl ?_
  simp [s23]
theorem nil_cell (wl lim : Nat) (r i : Int) (st : Store) : (orcL S).call wl lim 22 [.nilPtr, .int .i64 r, .int .i64 i] st = some (.tup [.nilPtr, .int .i64 1], st) := by
  have h := fun wl lim st => nil_cells wl lim r st
  refine call_run (sf := s22) rfl rfl rfl ?_
  simp [s22, h]
theorem nil_len (wl lim : Nat) (r : Int) (st : Store) : (orcL S).call wl lim 17 [.nilPtr, .int .i64 r] st = some (.tup [.int .i64 0, .int .i64 1], st) := by
  have h := fun wl lim st => nil_cells wl lim r st
  refine call_run (sf := s17) rfl rfl rfl ?_
  simp [s17, h]
theorem nil_load (wl lim : Nat) (r i : Int) (st : Store) : (orcL S).call wl lim 13 [.nilPtr, .int .i64 r, .int .i64 i] st = some (.tup [.int .i64 0, .int .i64 1], st) := by
  have h := fun wl lim st => nil_cell wl lim r i st
  refine call_run (sf := s13) rfl rfl rfl ?_
  simp [s13, h]
theorem nil_put (wl lim : Nat) (r i v : Int) (st : Store) : (orcL S).call wl lim 15 [.nilPtr, .int .i64 r, .int .i64 i, .int .i64 v] st = some (.int .i64 1, st) := by
  have h := fun wl lim st => nil_cell wl lim r i st
  refine call_run (sf := s15) rfl rfl rfl ?_
  simp [s15, h]
theorem law_nil (a b c : Int) : (orcL S).call 0 0 5 [.int .i64 a, .int .i64 b, .int .i64 c] [] = some (.bool true, []) := by
  have h1 := fun wl lim st => nil_rec wl lim a st
  have h2 := fun wl lim st => nil_arr wl lim a st
  have h3 := fun wl lim st => nil_many wl lim st
  have h4 := fun wl lim st => nil_len wl lim a st
  have h5 := fun wl lim st => nil_load wl lim a b st
  have h6 := fun wl lim st => nil_put wl lim a b c st
  refine call_pure (sf := s5) rfl rfl (by simp) rfl (by simp) ?_
  simp [s5, h1, h2, h3, h4, h5, h6, known0]
end U10

namespace U10
open Ax Go Code10
set_option maxRecDepth 100000
set_option maxHeartbeats 1000000

/-- A Store in memory: its things, the list of them, each one's number. -/
structure Rp (st : Store) (p : Nat) (T : List (List Int)) (q v : Nat) (ids : List Nat) : Prop where
  len : ids.length = T.length
  obj : st[p]? = some (.rows 0 1 [[if T = [] then .nilSl else .mu q v]])
  lst : T ≠ [] → st[q]? = some (.rows v 1 (ids.map fun i => [.mu i 0]))
  el : ∀ k (h : k < ids.length) (h2 : k < T.length), st[ids[k]]? = some (.rows 0 1 (ints T[k]))
  pq : T ≠ [] → p ≠ q
  pn : p ∉ ids
  qn : T ≠ [] → q ∉ ids
  nd : ids.Nodup

variable {st : Store} {p q v : Nat} {T : List (List Int)} {ids : List Nat}

theorem Rp.obj0 (h : Rp st p [] q v ids) : st[p]? = some (.rows 0 1 [[.nilSl]]) := h.obj
theorem Rp.obj1 (h : Rp st p T q v ids) (hT : T ≠ []) : st[p]? = some (.rows 0 1 [[.mu q v]]) := by have := h.obj; rwa [if_neg hT] at this

def cellsV (T : List (List Int)) (ids : List Nat) (ref : Int) : AV := if 1 ≤ ref ∧ ref ≤ (T.length : Int) then .tup [.mu (ids.getD (ref - 1).toNat 0) 0, .bool true] else .tup [.nilSl, .bool false]

theorem cells_ok (wl lim : Nat) (h : Rp st p T q v ids) (ref : Int) (hr : T.length < 1000000000) :
    (orcL S).call wl lim 23 [.ptr p 0 0 0, .int .i64 ref] st = some (cellsV T ids ref, st) := by
  refine call_run (sf := s23) rfl rfl rfl ?_
  unfold cellsV
  by_cases r0 : ref < 1
  · have : ¬ (1 ≤ ref ∧ ref ≤ (T.length : Int)) := by omega
    rw [if_neg this]
    simp [s23, r0]
  by_cases hT : T = []
  · subst hT
    have : ¬ (1 ≤ ref ∧ ref ≤ (([] : List (List Int)).length : Int)) := by simp; omega
    rw [if_neg this]
    have h0 : 0 < ref := by omega
    simp [s23, r0, h.obj0, cut, h0]
  · have ho := h.obj1 hT
    have hl := h.lst hT
    have hlen := h.len
    by_cases r1 : (T.length : Int) < ref
    · have : ¬ (1 ≤ ref ∧ ref ≤ (T.length : Int)) := by omega
      rw [if_neg this]
      simp [s23, r0, ho, hl, cut, hlen, r1]
    · obtain ⟨k, rfl⟩ : ∃ k : Nat, ref = (k : Int) + 1 := ⟨(ref - 1).toNat, by omega⟩
      have hk : k < ids.length := by omega
      have hk2 : k < T.length := by omega
      have : 1 ≤ (k : Int) + 1 ∧ (k : Int) + 1 ≤ (T.length : Int) := by omega
      rw [if_pos this]
      have hw : IntKind.i64.wrap (k : Int) = (k : Int) := by rw [wrap64] <;> omega
      have e1 : ((k : Int) + 1 - 1).toNat = k := by omega
      have hg : ids[k]?.getD 0 = ids[k] := by simp [hk]
      simp [s23, r0, ho, hl, cut, hlen, r1, hw, hk2]

/-- What a cell of a thing is, and a trap. -/
def trapOf (T : List (List Int)) (ref i : Int) : Int := if 1 ≤ ref ∧ ref ≤ (T.length : Int) then (if 0 ≤ i ∧ i < ((T.getD (ref - 1).toNat []).length : Int) then 0 else 2) else 1

theorem cell_no (wl lim : Nat) (h : Rp st p T q v ids) (ref i : Int) (hr : T.length < 1000000000) (ht : trapOf T ref i ≠ 0) :
    (orcL S).call wl lim 22 [.ptr p 0 0 0, .int .i64 ref, .int .i64 i] st = some (.tup [.nilPtr, .int .i64 (trapOf T ref i)], st) := by
  have hc := fun wl lim => cells_ok wl lim h ref hr
  refine call_run (sf := s22) rfl rfl rfl ?_
  unfold cellsV at hc
  unfold trapOf at ht ⊢
  by_cases c : 1 ≤ ref ∧ ref ≤ (T.length : Int)
  · simp only [if_pos c] at hc ht ⊢
    obtain ⟨k, rfl⟩ : ∃ k : Nat, ref = (k : Int) + 1 := ⟨(ref - 1).toNat, by omega⟩
    have hk2 : k < T.length := by omega
    have hk : k < ids.length := by rw [h.len]; exact hk2
    have e1 : ((k : Int) + 1 - 1).toNat = k := by omega
    have he := h.el k hk hk2
    have hg : ids[k]?.getD 0 = ids[k] := by simp [hk]
    have hgt : T.getD k [] = T[k] := by simp [hk2]
    rw [e1] at hc ht ⊢
    rw [hgt] at ht ⊢
    by_cases i0 : i < 0
    · have : ¬ (0 ≤ i ∧ i < (T[k].length : Int)) := by omega
      rw [if_neg this]
      simp [s22, hc, i0]
    by_cases i1 : (T[k].length : Int) ≤ i
    · have : ¬ (0 ≤ i ∧ i < (T[k].length : Int)) := by omega
      rw [if_neg this]
      simp [s22, hc, i0, hk, he, i1]
    · exact absurd (if_pos ⟨by omega, by omega⟩) ht
  · simp only [if_neg c] at hc ht ⊢
    simp [s22, hc]

theorem cell_at (wl lim : Nat) (h : Rp st p T q v ids) (k j : Nat) (hr : T.length < 1000000000) (hk2 : k < T.length) (hk : k < ids.length) (hj : j < T[k].length) :
    (orcL S).call wl lim 22 [.ptr p 0 0 0, .int .i64 ((k : Int) + 1), .int .i64 j] st = some (.tup [.ptr ids[k] 0 j 0, .int .i64 0], st) := by
  have hc := fun wl lim => cells_ok wl lim h ((k : Int) + 1) hr
  refine call_run (sf := s22) rfl rfl rfl ?_
  unfold cellsV at hc
  have c : 1 ≤ (k : Int) + 1 ∧ (k : Int) + 1 ≤ (T.length : Int) := by omega
  simp only [if_pos c] at hc
  have e1 : ((k : Int) + 1 - 1).toNat = k := by omega
  have he := h.el k hk hk2
  have hg : ids.getD k 0 = ids[k] := by simp [hk]
  rw [e1, hg] at hc
  have i1 : ¬ ((T[k].length : Int) ≤ (j : Int)) := by omega
  have j0 : ¬ ((j : Int) < 0) := by omega
  simp [s22, hc, he, i1, hj, j0]

theorem len_ok (wl lim : Nat) (h : Rp st p T q v ids) (ref : Int) (hr : T.length < 1000000000) :
    (orcL S).call wl lim 17 [.ptr p 0 0 0, .int .i64 ref] st = some (if 1 ≤ ref ∧ ref ≤ (T.length : Int) then .tup [.int .i64 (T.getD (ref - 1).toNat []).length, .int .i64 0] else .tup [.int .i64 0, .int .i64 1], st) := by
  have hc := fun wl lim => cells_ok wl lim h ref hr
  refine call_run (sf := s17) rfl rfl rfl ?_
  unfold cellsV at hc
  by_cases c : 1 ≤ ref ∧ ref ≤ (T.length : Int)
  · simp only [if_pos c] at hc ⊢
    obtain ⟨k, rfl⟩ : ∃ k : Nat, ref = (k : Int) + 1 := ⟨(ref - 1).toNat, by omega⟩
    have hk2 : k < T.length := by omega
    have hk : k < ids.length := by rw [h.len]; exact hk2
    have e1 : ((k : Int) + 1 - 1).toNat = k := by omega
    have he := h.el k hk hk2
    have hg : ids.getD k 0 = ids[k] := by simp [hk]
    have hgt : T.getD k [] = T[k] := by simp [hk2]
    rw [e1, hg] at hc
    rw [e1, hgt]
    simp [s17, hc, he]
  · simp only [if_neg c] at hc ⊢
    simp [s17, hc]

theorem many_ok (wl lim : Nat) (h : Rp st p T q v ids) : (orcL S).call wl lim 19 [.ptr p 0 0 0] st = some (.int .i64 T.length, st) := by
  refine call_run (sf := s19) rfl rfl rfl ?_
  by_cases hT : T = []
  · subst hT
    simp [s19, h.obj0, cut]
  · have ho := h.obj1 hT
    have hl := h.lst hT
    have hlen := h.len
    simp [s19, ho, hl, cut, hlen]

theorem load_ok (wl lim : Nat) (h : Rp st p T q v ids) (ref i : Int) (hr : T.length < 1000000000) :
    (orcL S).call wl lim 13 [.ptr p 0 0 0, .int .i64 ref, .int .i64 i] st = some (.tup [.int .i64 (if trapOf T ref i = 0 then (T.getD (ref - 1).toNat []).getD i.toNat 0 else 0), .int .i64 (trapOf T ref i)], st) := by
  refine call_run (sf := s13) rfl rfl rfl ?_
  by_cases ht : trapOf T ref i = 0
  · obtain ⟨k, hk2, rfl, j, hj, rfl⟩ : ∃ k : Nat, ∃ hk : k < T.length, ref = (k : Int) + 1 ∧ ∃ j : Nat, j < T[k].length ∧ i = j := by
      unfold trapOf at ht
      split at ht
      · rename_i c
        split at ht
        · rename_i d
          have hk : (ref - 1).toNat < T.length := by omega
          have : T.getD (ref - 1).toNat [] = T[(ref - 1).toNat] := by simp only [List.getD_eq_getElem?_getD, List.getElem?_eq_getElem hk, Option.getD_some]
          rw [this] at d
          exact ⟨(ref - 1).toNat, hk, by omega, i.toNat, by omega, by omega⟩
        · cases ht
      · cases ht
    have hk : k < ids.length := by rw [h.len]; exact hk2
    have hc := fun wl lim => cell_at wl lim h k j hr hk2 hk hj
    have he := h.el k hk hk2
    have e1 : ((k : Int) + 1 - 1).toNat = k := by omega
    have hgt : T.getD k [] = T[k] := by simp [hk2]
    rw [if_pos ht, ht, e1, hgt]
    simp [s13, hc, he, cut, hj]
  · have hc := fun wl lim => cell_no wl lim h ref i hr ht
    rw [if_neg ht]
    simp [s13, hc, ht]

/-- With a value laid into a cell. -/
def putT (T : List (List Int)) (ref i x : Int) : List (List Int) := if trapOf T ref i = 0 then T.set (ref - 1).toNat ((T.getD (ref - 1).toNat []).set i.toNat x) else T

theorem nodup_ne {l : List Nat} (h : l.Nodup) {a b : Nat} (ha : a < l.length) (hb : b < l.length) (e : l[a] = l[b]) : a = b := by
  have hp := List.pairwise_iff_getElem.1 h
  rcases Nat.lt_trichotomy a b with h1 | h1 | h1
  · exact absurd e (hp a b ha hb h1)
  · exact h1
  · exact absurd e.symm (hp b a hb ha h1)

theorem Rp.put (h : Rp st p T q v ids) {k : Nat} (hk2 : k < T.length) (hk : k < ids.length) (r : List Int) : Rp (st.set ids[k] (.rows 0 1 (ints r))) p (T.set k r) q v ids := by
  have hT : T ≠ [] := by intro e; subst e; simp at hk2
  have hT2 : T.set k r ≠ [] := by
    intro e
    have := congrArg List.length e
    rw [List.length_set] at this
    exact hT (List.eq_nil_of_length_eq_zero this)
  have hp : ids[k] ≠ p := fun e => h.pn (e ▸ List.getElem_mem hk)
  have hq : ids[k] ≠ q := fun e => h.qn hT (e ▸ List.getElem_mem hk)
  have hl : ids[k] < st.length := (List.getElem?_eq_some_iff.1 (h.el k hk hk2)).1
  refine ⟨by simpa using h.len, ?_, fun _ => ?_, fun m hm hm2 => ?_, fun _ => h.pq hT, h.pn, fun _ => h.qn hT, h.nd⟩
  · rw [if_neg hT2, List.getElem?_set_ne hp]; exact h.obj1 hT
  · rw [List.getElem?_set_ne hq]; exact h.lst hT
  · by_cases e : k = m
    · subst e
      rw [List.getElem?_set_self hl]
      simp
    · have : ids[k] ≠ ids[m] := fun e2 => e (nodup_ne h.nd hk hm e2)
      rw [List.getElem?_set_ne this]
      have hm3 : m < T.length := by simpa using hm2
      rw [h.el m hm hm3]
      simp [e]

theorem trap_at {ref i : Int} (ht : trapOf T ref i = 0) : ∃ k : Nat, ∃ hk : k < T.length, ref = (k : Int) + 1 ∧ ∃ j : Nat, j < T[k].length ∧ i = j := by
  unfold trapOf at ht
  split at ht
  · rename_i c
    split at ht
    · rename_i d
      have hk : (ref - 1).toNat < T.length := by omega
      have : T.getD (ref - 1).toNat [] = T[(ref - 1).toNat] := by simp only [List.getD_eq_getElem?_getD, List.getElem?_eq_getElem hk, Option.getD_some]
      rw [this] at d
      exact ⟨(ref - 1).toNat, hk, by omega, i.toNat, by omega, by omega⟩
    · cases ht
  · cases ht

/-- Nothing but what a Store holds has changed. -/
def Fr (st st' : Store) (F : List Nat) : Prop := st.length ≤ st'.length ∧ ∀ i, i < st.length → i ∉ F → st'[i]? = st[i]?

theorem put_ok (lim : Nat) (h : Rp st p T q v ids) (ref i x : Int) (hr : T.length < 1000000000) :
    ∃ st', (∀ lim, (orcL S).call 0 lim 15 [.ptr p 0 0 0, .int .i64 ref, .int .i64 i, .int .i64 x] st = some (.int .i64 (trapOf T ref i), st')) ∧ Rp st' p (putT T ref i x) q v ids ∧ Fr st st' ids ∧ st'.length = st.length := by
  by_cases ht : trapOf T ref i = 0
  · obtain ⟨k, hk2, rfl, j, hj, rfl⟩ := trap_at ht
    have hk : k < ids.length := by rw [h.len]; exact hk2
    have hc := fun wl lim => cell_at wl lim h k j hr hk2 hk hj
    have he := h.el k hk hk2
    have e1 : ((k : Int) + 1 - 1).toNat = k := by omega
    have hgt : T.getD k [] = T[k] := by simp only [List.getD_eq_getElem?_getD, List.getElem?_eq_getElem hk2, Option.getD_some]
    have hs : (ints T[k]).set j [.int .i64 x] = ints (T[k].set j x) := by simp [ints, List.map_set]
    have hlt : ids[k] < st.length := (List.getElem?_eq_some_iff.1 he).1
    have htk : ∀ y, List.take st.length (st.set ids[k] y) = st.set ids[k] y := fun y => List.take_of_length_le (by simp)
    refine ⟨st.set ids[k] (.rows 0 1 (ints (T[k].set j x))), fun lim => ?_, ?_, ⟨by simp, fun i hi hn => ?_⟩, by simp⟩
    · refine call_run (sf := s15) rfl rfl rfl ?_
      rw [ht]
      simp [s15, hc, he, hj, mayWrite, AV.allPure, AV.isPure, paste, hs, htk]
    · unfold putT
      rw [if_pos ht, e1, hgt]
      exact h.put hk2 hk _
    · have : ids[k] ≠ i := fun e => hn (e ▸ List.getElem_mem hk)
      exact List.getElem?_set_ne this
  · have hc := fun wl lim => cell_no wl lim h ref i hr ht
    refine ⟨st, fun lim => ?_, ?_, ⟨Nat.le_refl _, fun _ _ _ => rfl⟩, rfl⟩
    · refine call_run (sf := s15) rfl rfl rfl ?_
      simp [s15, hc, ht]
    · unfold putT; rw [if_neg ht]; exact h

theorem app_some {i : Nat} {x : AObj} (h : st[i]? = some x) (l : Store) : (st ++ l)[i]? = some x := by
  rw [List.getElem?_append_left (List.getElem?_eq_some_iff.1 h).1]; exact h
theorem app_set {i : Nat} {x : AObj} (h : st[i]? = some x) (l : Store) (y : AObj) : (st ++ l).set i y = st.set i y ++ l := List.set_append_left _ _ (List.getElem?_eq_some_iff.1 h).1

theorem a_litM {wl lim a : Nat} {st : Store} {bx : Boxes} : act0 wl lim (.litM 1 1 [.nilSl] [0]) [.val (.mu a 0)] st bx = some (.val (.mu st.length 0), st ++ [.rows 0 1 [[.mu a 0]]], bx) := rfl
theorem a_app0 {lim a b : Nat} {st : Store} {bx : Boxes} (h : st[b]? = some (.rows 0 1 [[.mu a 0]])) :
    act0 0 lim (.appendM 1 24) [.val .nilSl, .val (.mu b 0)] st bx = some (.val (.mu st.length 0), st ++ [.rows 0 1 [[.mu a 0]]], bx) := by
  simp [act0, bringsOf, rowsOf, h, fits, AV.viewL, AV.view, room]
theorem a_appM {lim a b q v : Nat} {old : List (List AV)} {st : Store} {bx : Boxes} (h : st[b]? = some (.rows 0 1 [[.mu a 0]])) (h2 : st[q]? = some (.rows v 1 old)) (hr : (old.length + 1) * 24 ≤ room) (hl : lim ≤ q) :
    act0 0 lim (.appendM 1 24) [.val (.mu q v), .val (.mu b 0)] st bx = some (.val (.mu q (v + 1)), st.set q (.rows (v + 1) 1 (old ++ [[.mu a 0]])), bx) := by
  simp [act0, bringsOf, rowsOf, h, h2, fits, AV.viewL, AV.view, hr, hl]

theorem add_ok (h : Rp st p T q v ids) (n : Nat) (hr : T.length < 1000000) (hn : n ≤ 1000000) :
    ∃ st' q' v', (∀ lim, lim ≤ p → lim ≤ q → (orcL S).call 0 lim 21 [.ptr p 0 0 0, .int .i64 n] st = some (.int .i64 ((T.length : Int) + 1), st')) ∧ Rp st' p (T ++ [List.replicate n 0]) q' v' (ids ++ [st.length]) ∧
      Fr st st' [p, q] ∧ (T ≠ [] → q' = q) ∧ (T = [] → st.length ≤ q' ∧ q' < st'.length) := by
  by_cases hT : T = []
  · subst hT
    have ho := h.obj0
    have hoA := fun l => app_some ho l
    have hsA := fun l y => app_set ho l y
    have hpl0 : p < st.length := (List.getElem?_eq_some_iff.1 ho).1
    have hsp : ∀ x l, (st.set p x ++ l)[p]? = some x := fun x l => by
      rw [List.getElem?_append_left (by simpa using hpl0), List.getElem?_set_self hpl0]
    have hs2 : ∀ x a b c, (st.set p x ++ [a, b, c])[st.length + 2]? = some c := fun x a b c => by
      rw [List.getElem?_append_right (by simp)]
      simp
    refine ⟨st.set p (.rows 0 1 [[.mu (st.length + 2) 0]]) ++ [.rows 0 1 (List.replicate n [.int .i64 0]), .rows 0 1 [[.mu st.length 0]], .rows 0 1 [[.mu st.length 0]]], st.length + 2, 0, fun lim hl1 hl2 => ?_, ?_⟩
    · refine call_run (sf := s21) rfl rfl rfl ?_
      have hc : (n : Int) * 8 ≤ room := by unfold room; omega
      have hc2 : n * 8 ≤ room := by unfold room; omega
      simp [s21]
      rw [W_drawP]
      have g1 : (st ++ [AObj.rows 0 1 (List.replicate n [.int .i64 0]), .rows 0 1 [[.mu st.length 0]]])[st.length + 1]? = some (.rows 0 1 [[.mu st.length 0]]) := by simp
      have ga := fun lim bx => a_app0 (lim := lim) (bx := bx) g1
      simp [evalRec, ho, cut, hl1, hoA, hsA, hc, a_litM, ga, pairOk, readsSame, mayWrite, AV.allPure, AV.isPure, paste, boxOk, SOp.newBox]
      refine ⟨_, _, ⟨rfl, rfl⟩, ?_⟩
      simp [ho, cut, hoA, oneOrAgg, AV.viewL, AV.view, Ent.same, AV.same, hsp]
    · have hid : ids = [] := List.eq_nil_of_length_eq_zero h.len
      subst hid
      have hpl : p < st.length := (List.getElem?_eq_some_iff.1 ho).1
      refine ⟨⟨by simp, ?_, fun _ => ?_, fun k hk hk2 => ?_, fun _ => by omega, by simp; omega, fun _ => by simp, by simp⟩, ⟨by simp, fun i hi hn => ?_⟩, fun h => absurd rfl h, fun _ => ⟨by omega, by simp⟩⟩
      · simpa using hsp _ _
      · simp
      · have : k = 0 := by simpa using hk
        subst this
        simp [ints]
      · have hne : p ≠ i := fun e => hn (by simp [e])
        rw [List.getElem?_append_left (by simpa using hi), List.getElem?_set_ne hne]
  · have ho := h.obj1 hT
    have hl := h.lst hT
    have hpq := h.pq hT
    have hoA := fun l => app_some ho l
    have hlA := fun l => app_some hl l
    have hpl : p < st.length := (List.getElem?_eq_some_iff.1 ho).1
    have hql : q < st.length := (List.getElem?_eq_some_iff.1 hl).1
    have hsQ := fun l y => app_set hl l y
    have hoQ : ∀ y, (st.set q y)[p]? = some (.rows 0 1 [[.mu q v]]) := fun y => by rw [List.getElem?_set_ne hpq.symm]; exact ho
    have hoQA := fun y l => app_some (hoQ y) l
    have hsP := fun y l z => app_set (hoQ y) l z
    have hlen := h.len
    have hsp : ∀ y x l, ((st.set q y).set p x ++ l)[p]? = some x := fun y x l => by
      rw [List.getElem?_append_left (by simpa using hpl), List.getElem?_set_self (by simpa using hpl)]
    have hsq : ∀ y x l, ((st.set q y).set p x ++ l)[q]? = some y := fun y x l => by
      rw [List.getElem?_append_left (by simpa using hql), List.getElem?_set_ne hpq, List.getElem?_set_self hql]
    refine ⟨(st.set q (.rows (v + 1) 1 (ids.map (fun i => [.mu i 0]) ++ [[.mu st.length 0]]))).set p (.rows 0 1 [[.mu q (v + 1)]]) ++ [.rows 0 1 (List.replicate n [.int .i64 0]), .rows 0 1 [[.mu st.length 0]]], q, v + 1, fun lim hl1 hl2 => ?_, ?_⟩
    · refine call_run (sf := s21) rfl rfl rfl ?_
      have hc : (n : Int) * 8 ≤ room := by unfold room; omega
      have hc2 : n * 8 ≤ room := by unfold room; omega
      simp [s21]
      rw [W_drawP]
      have g1 : (st ++ [AObj.rows 0 1 (List.replicate n [.int .i64 0]), .rows 0 1 [[.mu st.length 0]]])[st.length + 1]? = some (.rows 0 1 [[.mu st.length 0]]) := by simp
      have ga := fun bx => a_appM (lim := lim) (bx := bx) g1 (hlA _) (by simp [hlen, room]; omega) hl2
      have hw : IntKind.i64.wrap (T.length : Int) = (T.length : Int) := by rw [wrap64] <;> omega
      simp [evalRec, ho, cut, hl1, hsQ, hoQA, hsP, hc, a_litM, ga, pairOk, readsSame, mayWrite, AV.allPure, AV.isPure, paste, boxOk, SOp.newBox]
      refine ⟨_, _, ⟨rfl, rfl⟩, ?_⟩
      simp [ho, cut, hoA, oneOrAgg, AV.viewL, AV.view, Ent.same, AV.same, hsp, hsq, hlen]
    · refine ⟨⟨by simp [hlen], ?_, fun _ => ?_, fun k hk hk2 => ?_, fun _ => hpq, ?_, fun _ => ?_, ?_⟩, ⟨by simp, fun i hi hn => ?_⟩, fun _ => rfl, fun e => absurd e hT⟩
      · simpa using hsp _ _ _
      · simpa using hsq _ _ _
      · by_cases e : k < ids.length
        · have hk3 : k < T.length := by omega
          have h1 : (ids ++ [st.length])[k] = ids[k] := List.getElem_append_left e
          have h2 : (T ++ [List.replicate n 0])[k] = T[k] := List.getElem_append_left hk3
          have hp : p ≠ ids[k] := fun e2 => h.pn (e2 ▸ List.getElem_mem e)
          have hq : q ≠ ids[k] := fun e2 => h.qn hT (e2 ▸ List.getElem_mem e)
          have hi := h.el k e hk3
          rw [h1, h2, List.getElem?_append_left (by simpa using (List.getElem?_eq_some_iff.1 hi).1), List.getElem?_set_ne hp, List.getElem?_set_ne hq]
          exact hi
        · have : k = ids.length := by simp at hk; omega
          subst this
          simp [ints, hlen]
      · simp; exact ⟨h.pn, by omega⟩
      · simp; exact ⟨h.qn hT, by omega⟩
      · refine List.nodup_append.2 ⟨h.nd, by simp, fun a ha b hb => ?_⟩
        simp at hb
        subst hb
        intro e
        subst e
        obtain ⟨k, hk, e⟩ := List.mem_iff_getElem.1 ha
        have := (List.getElem?_eq_some_iff.1 (h.el k hk (by omega))).1
        omega
      · have hne : p ≠ i := fun e => hn (by simp [e])
        have hne2 : q ≠ i := fun e => hn (by simp [e])
        rw [List.getElem?_append_left (by simpa using hi), List.getElem?_set_ne hne, List.getElem?_set_ne hne2]
end U10

namespace U10
open Ax Go Code10
set_option maxRecDepth 100000
set_option maxHeartbeats 1000000
variable {st : Store} {p q v : Nat} {T : List (List Int)} {ids : List Nat}

def clampN (n : Int) : Nat := if n < 0 then 0 else if 8 < n then 8 else n.toNat

theorem rec_ok (h : Rp st p T q v ids) (n : Int) (hr : T.length < 1000000) :
    ∃ st' q' v', (∀ lim, lim ≤ p → lim ≤ q → (orcL S).call 0 lim 9 [.ptr p 0 0 0, .int .i64 n] st = some (.int .i64 ((T.length : Int) + 1), st')) ∧ Rp st' p (T ++ [List.replicate (clampN n) 0]) q' v' (ids ++ [st.length]) ∧
      Fr st st' [p, q] ∧ (T ≠ [] → q' = q) ∧ (T = [] → st.length ≤ q' ∧ q' < st'.length) := by
  obtain ⟨st', q', v', h1, h2⟩ := add_ok h (clampN n) hr (by unfold clampN; split <;> (try split) <;> omega)
  refine ⟨st', q', v', fun lim l1 l2 => ?_, h2⟩
  have h3 := h1 lim l1 l2
  refine call_run (sf := s9) rfl rfl rfl ?_
  unfold clampN at h3
  by_cases n0 : n < 0
  · rw [if_pos n0] at h3
    have a : max n 0 = 0 := by omega
    have h4 : (orcL S).call 0 lim 21 [.ptr p 0 0 0, .int .i64 0] st = _ := h3
    simp [s9, n0, h4]
  · rw [if_neg n0] at h3
    have a : max n 0 = n := by omega
    by_cases n8 : 8 < n
    · rw [if_pos n8] at h3
      have b : min n 8 = 8 := by omega
      have h4 : (orcL S).call 0 lim 21 [.ptr p 0 0 0, .int .i64 8] st = _ := h3
      simp [s9, n0, n8, h4]
    · rw [if_neg n8] at h3
      have b : min n 8 = n := by omega
      have e : (n.toNat : Int) = n := by omega
      rw [e] at h3
      simp [s9, n0, n8, h3]

theorem arr_no (wl lim : Nat) (n : Int) (st : Store) (hn : n < 0 ∨ 50 < n) : (orcL S).call wl lim 11 [.ptr p 0 0 0, .int .i64 n] st = some (.tup [.int .i64 0, .int .i64 4], st) := by
  refine call_run (sf := s11) rfl rfl rfl ?_
  by_cases n0 : n < 0
  · simp [s11, n0]
  · have n1 : 50 < n := by omega
    simp [s11, n0, n1]
theorem arr_ok (h : Rp st p T q v ids) (n : Nat) (hr : T.length < 1000000) (hn : n ≤ 50) :
    ∃ st' q' v', (∀ lim, lim ≤ p → lim ≤ q → (orcL S).call 0 lim 11 [.ptr p 0 0 0, .int .i64 n] st = some (.tup [.int .i64 ((T.length : Int) + 1), .int .i64 0], st')) ∧ Rp st' p (T ++ [List.replicate n 0]) q' v' (ids ++ [st.length]) ∧
      Fr st st' [p, q] ∧ (T ≠ [] → q' = q) ∧ (T = [] → st.length ≤ q' ∧ q' < st'.length) := by
  obtain ⟨st', q', v', h1, h2⟩ := add_ok h n hr (by omega)
  refine ⟨st', q', v', fun lim l1 l2 => ?_, h2⟩
  have h3 := h1 lim l1 l2
  refine call_run (sf := s11) rfl rfl rfl ?_
  have n0 : ¬ ((n : Int) < 0) := by omega
  have n1 : ¬ ((50 : Int) < (n : Int)) := by omega
  simp [s11, n0, n1, h3]

theorem new_ok (wl lim : Nat) (st : Store) : (orcL S).call wl lim 8 [] st = some (.ptr st.length 0 0 0, st ++ [.rows 0 1 [[.nilSl]]]) := by
  refine call_run (sf := s8) rfl rfl rfl ?_
  simp [s8]
theorem new_rp (st : Store) : Rp (st ++ [.rows 0 1 [[.nilSl]]]) st.length [] 0 0 [] :=
  ⟨rfl, by simp, fun h => absurd rfl h, fun k h => by simp at h, fun h => absurd rfl h, by simp, fun h => absurd rfl h, by simp⟩

theorem law_sizes (n m : Int) : (orcL S).call 0 0 6 [.int .i64 n, .int .i64 m] [] = some (.bool true, []) := by
  have hn := new_ok 0 0 []
  have h0 := new_rp []
  simp only [List.nil_append, List.length_nil] at hn h0
  obtain ⟨st1, q1, v1, hr, r1, fr1, _, hq1⟩ := rec_ok h0 n (by simp)
  have hl := fun wl lim => len_ok wl lim r1 1 (by simp)
  have hm1 := fun wl lim => many_ok wl lim r1
  simp only [List.length_nil, List.nil_append, List.length_cons] at hr hl hm1
  have hlen : (List.getD [List.replicate (clampN n) (0 : Int)] (1 - 1 : Int).toNat []).length = clampN n := by simp
  rw [if_pos (by omega)] at hl
  rw [hlen] at hl
  have hr' : (orcL S).call 0 0 9 [.ptr 0 0 0 0, .int .i64 n] [.rows 0 1 [[.nilSl]]] = some (.int .i64 1, st1) := by simpa using hr 0 (Nat.zero_le _) (Nat.zero_le _)
  have hm1' : ∀ wl lim, (orcL S).call wl lim 19 [.ptr 0 0 0 0] st1 = some (.int .i64 1, st1) := by simpa using hm1
  have hq : ¬ (q1 < 0) := by omega
  have hT1 : [] ++ [List.replicate (clampN n) (0 : Int)] ≠ [] := by simp
  refine call_pure (sf := s6) rfl rfl (by simp) rfl (by simp) ?_
  have hcl : (n < 0 ∧ ¬ 8 < n ∧ ¬ 0 < n ∧ (clampN n : Int) = 0) ∨ (¬ n < 0 ∧ 8 < n ∧ 0 < n ∧ (clampN n : Int) = 8) ∨ (¬ n < 0 ∧ ¬ 8 < n ∧ 0 < n ∧ (clampN n : Int) = n) ∨ (n = 0 ∧ (clampN n : Int) = 0) := by
    unfold clampN
    by_cases n0 : n < 0
    · left; exact ⟨n0, by omega, by omega, by rw [if_pos n0]; rfl⟩
    · right
      by_cases n8 : 8 < n
      · left; exact ⟨n0, n8, by omega, by rw [if_neg n0, if_pos n8]; rfl⟩
      · right
        by_cases np : 0 < n
        · left; exact ⟨n0, n8, np, by rw [if_neg n0, if_neg n8]; omega⟩
        · right; exact ⟨by omega, by rw [if_neg n0, if_neg n8]; omega⟩
  by_cases m0 : m < 0
  · have ha := fun wl lim st => arr_no (p := 0) wl lim m st (.inl m0)
    have kn := fun wl lim => call_any (sf := s20) rfl rfl rfl known0 wl lim st1
    rcases hcl with ⟨n0, n8, np, hc⟩ | ⟨n0, n8, np, hc⟩ | ⟨n0, n8, np, hc⟩ | ⟨rfl, hc⟩
    · simp [s6, hn, hr', hl, hm1', ha, n8, np, hc, m0, kn]
    · simp [s6, hn, hr', hl, hm1', ha, n8, hc, m0, kn]
    · simp [s6, hn, hr', hl, hm1', ha, n8, np, hc, m0, kn]
    · simp [s6, hn, hr', hl, hm1', ha, hc, m0, kn]
  · by_cases m5 : 50 < m
    · have ha := fun wl lim st => arr_no (p := 0) wl lim m st (.inr m5)
      have kn := fun wl lim => call_any (sf := s20) rfl rfl rfl known0 wl lim st1
      rcases hcl with ⟨n0, n8, np, hc⟩ | ⟨n0, n8, np, hc⟩ | ⟨n0, n8, np, hc⟩ | ⟨rfl, hc⟩
      · simp [s6, hn, hr', hl, hm1', ha, n8, np, hc, m0, m5, kn]
      · simp [s6, hn, hr', hl, hm1', ha, n8, hc, m0, m5, kn]
      · simp [s6, hn, hr', hl, hm1', ha, n8, np, hc, m0, m5, kn]
      · simp [s6, hn, hr', hl, hm1', ha, hc, m0, m5, kn]
    · obtain ⟨k, rfl⟩ : ∃ k : Nat, m = k := ⟨m.toNat, by omega⟩
      obtain ⟨st2, q2, v2, ha, r2, _, _, _⟩ := arr_ok r1 k (by simp) (by omega)
      have ha' : (orcL S).call 0 0 11 [.ptr 0 0 0 0, .int .i64 k] st1 = some (.tup [.int .i64 2, .int .i64 0], st2) := by simpa using ha 0 (Nat.zero_le _) (Nat.zero_le _)
      have hl2 : ∀ wl lim, (orcL S).call wl lim 17 [.ptr 0 0 0 0, .int .i64 2] st2 = some (.tup [.int .i64 k, .int .i64 0], st2) := fun wl lim => by
        have := len_ok wl lim r2 2 (by simp)
        rw [if_pos (by simp)] at this
        simpa using this
      have hm2 : ∀ wl lim, (orcL S).call wl lim 19 [.ptr 0 0 0 0] st2 = some (.int .i64 2, st2) := fun wl lim => by simpa using many_ok wl lim r2
      have kn := fun wl lim => call_any (sf := s20) rfl rfl rfl known0 wl lim st2
      rcases hcl with ⟨n0, n8, np, hc⟩ | ⟨n0, n8, np, hc⟩ | ⟨n0, n8, np, hc⟩ | ⟨rfl, hc⟩
      · simp [s6, hn, hr', hl, ha', hl2, hm2, n8, np, hc, m0, m5, kn]
      · simp [s6, hn, hr', hl, ha', hl2, hm2, n8, hc, m0, m5, kn]
      · simp [s6, hn, hr', hl, ha', hl2, hm2, n8, np, hc, m0, m5, kn]
      · simp [s6, hn, hr', hl, ha', hl2, hm2, hc, m0, m5, kn]
end U10

namespace U10
open Ax Go Code10
set_option maxRecDepth 100000
set_option maxHeartbeats 1000000

theorem law_edges (n i : Int) : (orcL S).call 0 0 7 [.int .i64 n, .int .i64 i] [] = some (.bool true, []) := by
  refine call_pure (sf := s7) rfl rfl (by simp) rfl (by simp) ?_
  by_cases n0 : n < 0
  · simp [s7, n0]
  by_cases n5 : 50 < n
  · simp [s7, n0, n5]
  obtain ⟨k, rfl⟩ : ∃ k : Nat, n = k := ⟨n.toNat, by omega⟩
  have hn := new_ok 0 0 []
  have h0 := new_rp []
  simp only [List.nil_append, List.length_nil] at hn h0
  obtain ⟨st1, q1, v1, hr, r1, _, _, _⟩ := arr_ok h0 k (by simp) (by omega)
  have hr' : (orcL S).call 0 0 11 [.ptr 0 0 0 0, .int .i64 k] [.rows 0 1 [[.nilSl]]] = some (.tup [.int .i64 1, .int .i64 0], st1) := by simpa using hr 0 (Nat.zero_le _) (Nat.zero_le _)
  have hT : trapOf ([] ++ [List.replicate k (0 : Int)]) 1 i = if 0 ≤ i ∧ i < (k : Int) then 0 else 2 := by
    unfold trapOf
    rw [if_pos (by simp)]
    simp
  obtain ⟨st2, hp, r2, _, _⟩ := put_ok 0 r1 1 i 5 (by simp)
  have hl1 := fun wl lim => load_ok wl lim r1 1 i (by simp)
  have hpl : (putT ([] ++ [List.replicate k (0 : Int)]) 1 i 5).length = 1 := by unfold putT; split <;> simp
  have hl2 := fun wl lim => load_ok wl lim r2 0 i (by omega)
  have hl3 := fun wl lim => load_ok wl lim r2 2 i (by omega)
  have t2 : trapOf (putT ([] ++ [List.replicate k (0 : Int)]) 1 i 5) 0 i = 1 := by unfold trapOf; rw [if_neg (by omega)]
  have t3 : trapOf (putT ([] ++ [List.replicate k (0 : Int)]) 1 i 5) 2 i = 1 := by unfold trapOf; rw [if_neg (by omega)]
  rw [t2] at hl2
  rw [t3] at hl3
  obtain ⟨st3, hq, _, _, _⟩ := put_ok 0 r2 (-1) i 1 (by omega)
  have t4 : trapOf (putT ([] ++ [List.replicate k (0 : Int)]) 1 i 5) (-1) i = 1 := by unfold trapOf; rw [if_neg (by omega)]
  rw [t4] at hq
  rw [hT] at hl1 hp
  have kn := fun wl lim => call_any (sf := s20) rfl rfl rfl known0 wl lim st3
  have hw : IntKind.i64.wrap 2 = 2 := by decide
  by_cases i0 : 0 ≤ i
  · by_cases i1 : i < (k : Int)
    · simp only [if_pos (And.intro i0 i1)] at hl1 hp
      simp [s7, n0, n5, hn, hr', hl1, hp, hl2, hl3, hq, i0, i1, kn, hw]
    · have : ¬ (0 ≤ i ∧ i < (k : Int)) := by omega
      simp only [if_neg this] at hl1 hp
      simp [s7, n0, n5, hn, hr', hl1, hp, hl2, hl3, hq, i0, i1, kn, hw]
  · have : ¬ (0 ≤ i ∧ i < (k : Int)) := by omega
    simp only [if_neg this] at hl1 hp
    simp [s7, n0, n5, hn, hr', hl1, hp, hl2, hl3, hq, i0, kn, hw]
end U10
