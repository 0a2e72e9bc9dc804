/-
  Programs in codes, as those who run see them.
-/
import Derived.Test.YtlcehclecbakiaaGreatA6

namespace IrV
open Ax Go

/-! ### Lists of rows -/

/-- A list that is no list of one's own. -/
def notOwn : AV → Bool
  | .own _ _ => false
  | _ => true
theorem view_notOwn {v : AV} (h : notOwn v = true) (hs : isSl v = true) : v.view = v := by cases v <;> simp_all [notOwn, isSl, AV.view]
@[simp] theorem notOwn_view (v : AV) : notOwn v.view = true := by cases v <;> simp [notOwn, AV.view]

def isRows (sz : Nat) (p : List AV → Bool) (v : AV) : Bool := notOwn v && isSz sz v && (rowsL v).all p
theorem isRows_sz {sz : Nat} {p : List AV → Bool} {v : AV} (h : isRows sz p v = true) : isSz sz v = true := by simp only [isRows, Bool.and_eq_true] at h; exact h.1.2
theorem isRows_all {sz : Nat} {p : List AV → Bool} {v : AV} (h : isRows sz p v = true) : ∀ r ∈ rowsL v, p r = true := by simp only [isRows, Bool.and_eq_true, List.all_eq_true] at h; exact h.2
theorem isRows_vw {sz : Nat} {p : List AV → Bool} {v : AV} (h : isRows sz p v = true) : v.view = v := by
  have h2 := isSl_sz (isRows_sz h)
  simp only [isRows, Bool.and_eq_true] at h
  exact view_notOwn h.1.1 h2
theorem rows_map {α : Type} {sz : Nat} {p : List AV → Bool} {d : List AV → α} {e : α → List AV} {v : AV} (h : isRows sz p v = true) (he : ∀ r, p r = true → r = e (d r)) : rowsL v = ((rowsL v).map d).map e := by
  rw [List.map_map]
  conv => lhs; rw [← List.map_id (rowsL v)]
  exact List.map_congr_left fun r hr => he r (isRows_all h r hr)

def inR (n : Int) : Bool := decide (-9223372036854775808 ≤ n) && decide (n ≤ 9223372036854775807)

/-! ### Types -/
structure T3 where
  b : Int
  r : Int
  d : Int
  deriving DecidableEq
abbrev T0 : T3 := ⟨0, 0, 0⟩
@[simp] def T3.cells (t : T3) : List AV := [.int .i64 t.b, .int .i64 t.r, .int .i64 t.d]
def tyRow (r : List AV) : Bool := match r with | [.int .i64 a, .int .i64 b, .int .i64 c] => inR a && inR b && inR c | _ => false
def dT (r : List AV) : T3 := match r with | [.int .i64 a, .int .i64 b, .int .i64 c] => ⟨a, b, c⟩ | _ => T0
theorem tyRow_eq (r : List AV) (h : tyRow r = true) : r = (dT r).cells := by
  unfold tyRow at h
  split at h
  · rfl
  · cases h
def isTs (v : AV) : Bool := isRows 3 tyRow v
def dTs (v : AV) : List T3 := (rowsL v).map dT
theorem rowsL_T {v : AV} (h : isTs v = true) : rowsL v = (dTs v).map T3.cells := rows_map h tyRow_eq
theorem isTs_vw {v : AV} (h : isTs v = true) : v.view = v := isRows_vw h
@[simp] theorem dTs_view (v : AV) : dTs v.view = dTs v := by simp [dTs]
@[simp] theorem isSz_T {v : AV} (h : isTs v = true) : isSz 3 v = true := isRows_sz h
@[simp] theorem isSl_T {v : AV} (h : isTs v = true) : isSl v = true := isSl_sz (isSz_T h)

/-! ### Fields, records -/
structure FD where
  name : List UInt8
  t : T3
def FD.cells (f : FD) : List AV := [.str f.name, .int .i64 f.t.b, .int .i64 f.t.r, .int .i64 f.t.d]
def fdRow (r : List AV) : Bool := match r with | [.str _, .int .i64 a, .int .i64 b, .int .i64 c] => inR a && inR b && inR c | _ => false
def dF (r : List AV) : FD := match r with | [.str s, .int .i64 a, .int .i64 b, .int .i64 c] => ⟨s, a, b, c⟩ | _ => ⟨[], T0⟩
theorem fdRow_eq (r : List AV) (h : fdRow r = true) : r = (dF r).cells := by
  unfold fdRow at h
  split at h
  · rfl
  · cases h
def isFs (v : AV) : Bool := isRows 4 fdRow v
def dFs (v : AV) : List FD := (rowsL v).map dF
theorem rowsL_F {v : AV} (h : isFs v = true) : rowsL v = (dFs v).map FD.cells := rows_map h fdRow_eq
theorem isFs_vw {v : AV} (h : isFs v = true) : v.view = v := isRows_vw h
@[simp] theorem dFs_view (v : AV) : dFs v.view = dFs v := by simp [dFs]
@[simp] theorem isSz_F {v : AV} (h : isFs v = true) : isSz 4 v = true := isRows_sz h
@[simp] theorem isSl_F {v : AV} (h : isFs v = true) : isSl v = true := isSl_sz (isSz_F h)

structure RD where
  name : List UInt8
  fields : AV
def RD.cells (r : RD) : List AV := [.str r.name, r.fields]
def rdRow (r : List AV) : Bool := match r with | [.str _, f] => isFs f | _ => false
def dR (r : List AV) : RD := match r with | [.str s, f] => ⟨s, f⟩ | _ => ⟨[], .nilSl⟩
theorem rdRow_eq (r : List AV) (h : rdRow r = true) : r = (dR r).cells := by
  unfold rdRow at h
  split at h
  · rfl
  · cases h
def isRs (v : AV) : Bool := isRows 2 rdRow v
def dRs (v : AV) : List RD := (rowsL v).map dR
theorem rowsL_R {v : AV} (h : isRs v = true) : rowsL v = (dRs v).map RD.cells := rows_map h rdRow_eq
theorem isRs_get {v : AV} (h : isRs v = true) : ∀ r ∈ dRs v, isFs r.fields = true := by
  intro r hr
  obtain ⟨x, hx, rfl⟩ := List.mem_map.1 hr
  have := isRows_all h x hx
  unfold rdRow at this
  unfold dR
  split at this
  · exact this
  · cases this
theorem isRs_vw {v : AV} (h : isRs v = true) : v.view = v := isRows_vw h
@[simp] theorem dRs_view (v : AV) : dRs v.view = dRs v := by simp [dRs]
@[simp] theorem isSz_R {v : AV} (h : isRs v = true) : isSz 2 v = true := isRows_sz h
@[simp] theorem isSl_R {v : AV} (h : isRs v = true) : isSl v = true := isSl_sz (isSz_R h)

/-! ### Instructions, codes -/
structure ID where
  op : Int
  a : Int
  b : Int
  c : Int
  n : Int
  args : AV
def ID.cells (i : ID) : List AV := [.int .i64 i.op, .int .i64 i.a, .int .i64 i.b, .int .i64 i.c, .int .i64 i.n, i.args]
def idRow (r : List AV) : Bool := match r with | [.int .i64 a, .int .i64 b, .int .i64 c, .int .i64 d, .int .i64 e, v] => inR a && inR b && inR c && inR d && inR e && notOwn v && isI v | _ => false
def dN (r : List AV) : ID := match r with | [.int .i64 a, .int .i64 b, .int .i64 c, .int .i64 d, .int .i64 e, v] => ⟨a, b, c, d, e, v⟩ | _ => ⟨0, 0, 0, 0, 0, .nilSl⟩
theorem idRow_eq (r : List AV) (h : idRow r = true) : r = (dN r).cells := by
  unfold idRow at h
  split at h
  · rfl
  · cases h
def isNs (v : AV) : Bool := isRows 6 idRow v
def dNs (v : AV) : List ID := (rowsL v).map dN
theorem rowsL_N {v : AV} (h : isNs v = true) : rowsL v = (dNs v).map ID.cells := rows_map h idRow_eq
theorem isNs_get {v : AV} (h : isNs v = true) : ∀ r ∈ dNs v, notOwn r.args = true ∧ isI r.args = true := by
  intro r hr
  obtain ⟨x, hx, rfl⟩ := List.mem_map.1 hr
  have := isRows_all h x hx
  unfold idRow at this
  unfold dN
  split at this
  · simp only [Bool.and_eq_true] at this; exact ⟨this.1.2, this.2⟩
  · cases this
theorem isNs_vw {v : AV} (h : isNs v = true) : v.view = v := isRows_vw h
@[simp] theorem dNs_view (v : AV) : dNs v.view = dNs v := by simp [dNs]
@[simp] theorem isSz_N {v : AV} (h : isNs v = true) : isSz 6 v = true := isRows_sz h
@[simp] theorem isSl_N {v : AV} (h : isNs v = true) : isSl v = true := isSl_sz (isSz_N h)

structure CD where
  params : Int
  vars : AV
  has : Bool
  res : T3
  ins : AV
def CD.cells (c : CD) : List AV := [.int .i64 c.params, c.vars, .bool c.has, .int .i64 c.res.b, .int .i64 c.res.r, .int .i64 c.res.d, c.ins]
def cdRow (r : List AV) : Bool := match r with | [.int .i64 p, v, .bool _, .int .i64 a, .int .i64 b, .int .i64 c, i] => inR p && inR a && inR b && inR c && isTs v && isNs i | _ => false
def dC (r : List AV) : CD := match r with | [.int .i64 p, v, .bool h, .int .i64 a, .int .i64 b, .int .i64 c, i] => ⟨p, v, h, ⟨a, b, c⟩, i⟩ | _ => ⟨0, .nilSl, false, T0, .nilSl⟩
theorem cdRow_eq (r : List AV) (h : cdRow r = true) : r = (dC r).cells := by
  unfold cdRow at h
  split at h
  · rfl
  · cases h
def isCs (v : AV) : Bool := isRows 7 cdRow v
def dCs (v : AV) : List CD := (rowsL v).map dC
theorem rowsL_C {v : AV} (h : isCs v = true) : rowsL v = (dCs v).map CD.cells := rows_map h cdRow_eq
theorem isCs_get {v : AV} (h : isCs v = true) : ∀ r ∈ dCs v, isTs r.vars = true ∧ isNs r.ins = true := by
  intro r hr
  obtain ⟨x, hx, rfl⟩ := List.mem_map.1 hr
  have := isRows_all h x hx
  unfold cdRow at this
  unfold dC
  split at this
  · simp only [Bool.and_eq_true] at this; exact ⟨this.1.2, this.2⟩
  · cases this
theorem isCs_vw {v : AV} (h : isCs v = true) : v.view = v := isRows_vw h
@[simp] theorem dCs_view (v : AV) : dCs v.view = dCs v := by simp [dCs]
@[simp] theorem isSz_C {v : AV} (h : isCs v = true) : isSz 7 v = true := isRows_sz h
@[simp] theorem isSl_C {v : AV} (h : isCs v = true) : isSl v = true := isSl_sz (isSz_C h)

/-! ### Sites, programs -/
structure SD where
  fn : Int
  t : T3
def SD.cells (s : SD) : List AV := [.int .i64 s.fn, .int .i64 s.t.b, .int .i64 s.t.r, .int .i64 s.t.d]
def sdRow (r : List AV) : Bool := match r with | [.int .i64 f, .int .i64 a, .int .i64 b, .int .i64 c] => inR f && inR a && inR b && inR c | _ => false
def dS (r : List AV) : SD := match r with | [.int .i64 f, .int .i64 a, .int .i64 b, .int .i64 c] => ⟨f, a, b, c⟩ | _ => ⟨0, T0⟩
theorem sdRow_eq (r : List AV) (h : sdRow r = true) : r = (dS r).cells := by
  unfold sdRow at h
  split at h
  · rfl
  · cases h
def isSs (v : AV) : Bool := isRows 4 sdRow v
def dSs (v : AV) : List SD := (rowsL v).map dS
theorem rowsL_S {v : AV} (h : isSs v = true) : rowsL v = (dSs v).map SD.cells := rows_map h sdRow_eq
theorem isSs_vw {v : AV} (h : isSs v = true) : v.view = v := isRows_vw h
@[simp] theorem dSs_view (v : AV) : dSs v.view = dSs v := by simp [dSs]
@[simp] theorem isSz_S {v : AV} (h : isSs v = true) : isSz 4 v = true := isRows_sz h
@[simp] theorem isSl_S {v : AV} (h : isSs v = true) : isSl v = true := isSl_sz (isSz_S h)

structure XD where
  recs : AV
  globals : AV
  codes : AV
  sites : AV
  main : Int
def XD.cells (x : XD) : List AV := [x.recs, x.globals, x.codes, x.sites, .int .i64 x.main]
structure XD.ok (x : XD) : Prop where
  recs : isRs x.recs = true
  globals : isTs x.globals = true
  codes : isCs x.codes = true
  sites : isSs x.sites = true

theorem inR_T {v : AV} (h : isTs v = true) : ∀ t ∈ dTs v, inR t.b = true ∧ inR t.r = true ∧ inR t.d = true := by
  intro r hr
  obtain ⟨x, hx, rfl⟩ := List.mem_map.1 hr
  have := isRows_all h x hx
  unfold tyRow at this
  unfold dT
  split at this
  · simp only [Bool.and_eq_true] at this; exact ⟨this.1.1, this.1.2, this.2⟩
  · cases this
theorem dTs_len (v : AV) : (dTs v).length = (rowsL v).length := by simp [dTs]

/-- A variable's type; none: there is none. -/
def ofT (vars : List T3) (n : Int) : T3 := if 0 ≤ n then vars.getD n.toNat T0 else T0
/-- All of the variables are of a type that there is. -/
def isT (vars : List T3) (t : T3) (l : List Int) : Bool := l.all (fun n => decide (ofT vars n = t)) && decide (t ≠ T0)
def tInt : T3 := ⟨1, 0, 0⟩
def tBool : T3 := ⟨2, 0, 0⟩
end IrV
