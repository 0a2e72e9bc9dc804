/-
  The document's parser in plain terms: expressions, statements, programs, and how they are read off a list of tokens.
-/
import Derived.Test.YthhebfamepmagaaV

namespace Par
open Ax Go V7

/-! ### Tokens, readers -/
structure Tk where
  k : Int
  t : List UInt8
  n : Int
  a : Int
def Tk.cells (x : Tk) : List AV := [.int .i64 x.k, .str x.t, .int .i64 x.n, .int .i64 x.a]
abbrev Tk0 : Tk := ⟨0, [], 0, 0⟩

/-- A list of tokens. -/
structure TL (l : AV) (T : List Tk) : Prop where
  sz : isSz 4 l = true
  rows : rowsL l = T.map Tk.cells
  len : T.length < 1000000000
theorem TL.sl {l : AV} {T : List Tk} (h : TL l T) : isSl l = true := isSl_sz h.sz

/-- A reader's place, open brackets, fault. -/
structure RQ where
  at_ : Nat
  op : Int
  fe : Int
  fa : Int
def RQ.obj (l : AV) (q : RQ) : AObj := .rows 0 5 [[l, .int .i64 q.at_, .int .i64 q.op, .int .i64 q.fe, .int .i64 q.fa]]
def cur (T : List Tk) (q : RQ) : Tk := T.getD q.at_ Tk0
def failQ (T : List Tk) (q : RQ) (e : Int) : RQ := if q.fe = 0 then ⟨q.at_, q.op, e, (cur T q).a⟩ else q
def kindOf (s : List UInt8) : Int := match s with | c :: _ => if 97 ≤ c.toNat ∧ c.toNat ≤ 122 then 3 else 4 | [] => 4
def isQ (T : List Tk) (q : RQ) (s : List UInt8) : Bool := decide (q.fe = 0) && decide ((cur T q).k = kindOf s) && decide ((cur T q).t = s)
def stepQ (q : RQ) : RQ := ⟨q.at_ + 1, q.op, q.fe, q.fa⟩
def takeQ (T : List Tk) (q : RQ) (s : List UInt8) : RQ := if isQ T q s then stepQ q else failQ T q 2
def bumpQ (q : RQ) (d : Int) : RQ := ⟨q.at_, IntKind.i64.wrap (q.op + d), q.fe, q.fa⟩
def opensQ (T : List Tk) (q : RQ) (s : List UInt8) : RQ := if isQ T q s && decide (50 ≤ q.op) then failQ T q 4 else bumpQ (takeQ T q s) 1
def closesQ (T : List Tk) (q : RQ) (s : List UInt8) : RQ := bumpQ (takeQ T q s) (-1)
def nameQ (T : List Tk) (q : RQ) : List UInt8 × RQ := if q.fe = 0 ∧ (cur T q).k = 1 then ((cur T q).t, stepQ q) else ([], failQ T q 2)

/-- One sign so many times. -/
def takesQ (T : List Tk) (q : RQ) (s : List UInt8) : Nat → RQ
  | 0 => q
  | k + 1 => takeQ T (takesQ T q s k) s

/-- Brackets that open, so many at most. -/
def ofL (T : List Tk) : Nat → Nat → RQ → Nat × RQ
  | 0, d, q => (d, q)
  | k + 1, d, q => if isQ T q [91] then ofL T k (d + 1) (stepQ q) else (d, q)
/-- A type's name. -/
def ofN (T : List Tk) (q : RQ) : List UInt8 × RQ := if isQ T q [105, 110, 116] || isQ T q [98, 111, 111, 108] then ((cur T q).t, stepQ q) else nameQ T q
/-- A type. -/
def ofQ (T : List Tk) (q : RQ) : (List UInt8 × Int) × RQ :=
  if isQ T (ofL T 3 0 q).2 [91] then (([], 0), failQ T (ofL T 3 0 q).2 4)
  else (((ofN T (ofL T 3 0 q).2).1, ((ofL T 3 0 q).1 : Int)), takesQ T (ofN T (ofL T 3 0 q).2).2 [93] (ofL T 3 0 q).1)

/-! ### Expressions, statements, programs -/
def lstV (sz : Nat) (rows : List (List AV)) : AV := (mkL sz rows).view

inductive E where
  | mk (k n : Int) (nm on : List UInt8) (od : Int) (kids : List E) (a : Int) (ty : T3) (ref : Int)
def E.k : E → Int | .mk k _ _ _ _ _ _ _ _ => k
def E.n : E → Int | .mk _ n _ _ _ _ _ _ _ => n
def E.nm : E → List UInt8 | .mk _ _ nm _ _ _ _ _ _ => nm
def E.on : E → List UInt8 | .mk _ _ _ on _ _ _ _ _ => on
def E.od : E → Int | .mk _ _ _ _ od _ _ _ _ => od
def E.kids : E → List E | .mk _ _ _ _ _ kids _ _ _ => kids
def E.a : E → Int | .mk _ _ _ _ _ _ a _ _ => a
def E.ty : E → T3 | .mk _ _ _ _ _ _ _ ty _ => ty
def E.ref : E → Int | .mk _ _ _ _ _ _ _ _ ref => ref
mutual
def E.row : E → List AV
  | .mk k n nm on od kids a ty ref => [.int .i64 k, .int .i64 n, .str nm, .str on, .int .i64 od, lstV 11 (E.rows kids), .int .i64 a, .int .i64 ty.b, .int .i64 ty.r, .int .i64 ty.d, .int .i64 ref]
def E.rows : List E → List (List AV)
  | [] => []
  | e :: l => e.row :: E.rows l
end
/-- An expression as it is read. -/
def Em (k n : Int) (nm on : List UInt8) (od : Int) (kids : List E) (a : Int) : E := .mk k n nm on od kids a T0 0
def esV (l : List E) : AV := lstV 11 (E.rows l)

inductive Sm where
  | mk (k : Int) (nm on : List UInt8) (od : Int) (es : List E) (bd el : List Sm) (a ref : Int)
def Sm.k : Sm → Int | .mk k _ _ _ _ _ _ _ _ => k
def Sm.nm : Sm → List UInt8 | .mk _ nm _ _ _ _ _ _ _ => nm
def Sm.on : Sm → List UInt8 | .mk _ _ on _ _ _ _ _ _ => on
def Sm.od : Sm → Int | .mk _ _ _ od _ _ _ _ _ => od
def Sm.es : Sm → List E | .mk _ _ _ _ es _ _ _ _ => es
def Sm.bd : Sm → List Sm | .mk _ _ _ _ _ bd _ _ _ => bd
def Sm.el : Sm → List Sm | .mk _ _ _ _ _ _ el _ _ => el
def Sm.a : Sm → Int | .mk _ _ _ _ _ _ _ a _ => a
def Sm.ref : Sm → Int | .mk _ _ _ _ _ _ _ _ ref => ref
mutual
def Sm.row : Sm → List AV
  | .mk k nm on od es bd el a ref => [.int .i64 k, .str nm, .str on, .int .i64 od, esV es, lstV 9 (Sm.rows bd), lstV 9 (Sm.rows el), .int .i64 a, .int .i64 ref]
def Sm.rows : List Sm → List (List AV)
  | [] => []
  | s :: l => s.row :: Sm.rows l
end
def ssV (l : List Sm) : AV := lstV 9 (Sm.rows l)

structure Rc where
  name : List UInt8
  fields : List PD
  a : Int
def Rc.row (r : Rc) : List AV := [.str r.name, lstV 4 (r.fields.map PD.cells), .int .i64 r.a]
structure Fc where
  name : List UInt8
  params : List PD
  has : Bool
  on : List UInt8
  od : Int
  body : List Sm
  a : Int
def Fc.row (f : Fc) : List AV := [.str f.name, lstV 4 (f.params.map PD.cells), .bool f.has, .str f.on, .int .i64 f.od, ssV f.body, .int .i64 f.a]
structure Pg where
  recs : List Rc
  globals : List PD
  funcs : List Fc
def Pg.row (p : Pg) : List AV := [lstV 3 (p.recs.map Rc.row), lstV 4 (p.globals.map PD.cells), lstV 7 (p.funcs.map Fc.row)]

@[simp] theorem isSl_lstV {sz : Nat} {r : List (List AV)} : isSl (lstV sz r) = true := by simp [lstV]
@[simp] theorem rowsL_lstV {sz : Nat} {r : List (List AV)} : rowsL (lstV sz r) = r := by simp [lstV]
@[simp] theorem view_lstV {sz : Nat} {r : List (List AV)} : (lstV sz r).view = lstV sz r := by
  unfold lstV mkL; split <;> simp [AV.view]
@[simp] theorem cell_lstV {sz : Nat} {r : List (List AV)} : (lstV sz r).isCell = true := isCell_sl isSl_lstV
@[simp] theorem pure_lstV {sz : Nat} {r : List (List AV)} : (lstV sz r).isPure = true := pure_sl isSl_lstV
@[simp] theorem isSl_esV {l : List E} : isSl (esV l) = true := isSl_lstV
@[simp] theorem view_esV {l : List E} : (esV l).view = esV l := view_lstV
@[simp] theorem cell_esV {l : List E} : (esV l).isCell = true := cell_lstV
@[simp] theorem pure_esV {l : List E} : (esV l).isPure = true := pure_lstV
@[simp] theorem isSl_ssV {l : List Sm} : isSl (ssV l) = true := isSl_lstV
@[simp] theorem view_ssV {l : List Sm} : (ssV l).view = ssV l := view_lstV
@[simp] theorem cell_ssV {l : List Sm} : (ssV l).isCell = true := cell_lstV
@[simp] theorem pure_ssV {l : List Sm} : (ssV l).isPure = true := pure_lstV
@[simp] theorem lstV_nil {sz : Nat} : lstV sz [] = .nilSl := rfl
@[simp] theorem lstV_cons {sz : Nat} {r : List AV} {l : List (List AV)} : lstV sz (r :: l) = .lst sz (r :: l) := rfl
theorem Erows_map : ∀ l : List E, E.rows l = l.map E.row
  | [] => by simp [E.rows]
  | e :: l => by simp [E.rows, Erows_map l]
theorem Smrows_map : ∀ l : List Sm, Sm.rows l = l.map Sm.row
  | [] => by simp [Sm.rows]
  | e :: l => by simp [Sm.rows, Smrows_map l]
theorem esV_nil : esV [] = .nilSl := by simp [esV, E.rows, lstV, mkL_nil, AV.view]
theorem ssV_nil : ssV [] = .nilSl := by simp [ssV, Sm.rows, lstV, mkL_nil, AV.view]
theorem esV_cons (e : E) (l : List E) : esV (e :: l) = .lst 11 (E.rows (e :: l)) := by simp [esV, E.rows, lstV, mkL, AV.view]
theorem E.row_eq (e : E) : e.row = [.int .i64 e.k, .int .i64 e.n, .str e.nm, .str e.on, .int .i64 e.od, esV e.kids, .int .i64 e.a, .int .i64 e.ty.b, .int .i64 e.ty.r, .int .i64 e.ty.d, .int .i64 e.ref] := by
  cases e; simp [E.row, E.k, E.n, E.nm, E.on, E.od, E.kids, E.a, E.ty, E.ref, esV]
theorem Sm.row_eq (s : Sm) : s.row = [.int .i64 s.k, .str s.nm, .str s.on, .int .i64 s.od, esV s.es, ssV s.bd, ssV s.el, .int .i64 s.a, .int .i64 s.ref] := by
  cases s; simp [Sm.row, Sm.k, Sm.nm, Sm.on, Sm.od, Sm.es, Sm.bd, Sm.el, Sm.a, Sm.ref, ssV]

/-! ### Reading -/
def signsT : Nat → List (List UInt8 × Int)
  | 0 => [([124, 124], 24)]
  | 1 => [([38, 38], 23)]
  | 2 => [([60], 19), ([60, 61], 20), ([61, 61], 21), ([33, 61], 22)]
  | 3 => [([43], 14), ([45], 15)]
  | _ => [([42], 16), ([47], 17), ([37], 18)]
def findT : List (List UInt8 × Int) → List UInt8 → Int
  | [], _ => 0
  | (s, k) :: r, t => if s = t then k else findT r t
/-- The expression's kind that a sign makes at a level. -/
def levelT (n : Nat) (c : Tk) : Int := if c.k = 4 then findT (signsT n) c.t else 0

mutual
def pExpr (T : List Tk) : Nat → Nat → RQ → Option (E × RQ)
  | 0, _, _ => none
  | f + 1, n, q => if n = 5 then pUnary T f q else (pExpr T f (n + 1) q).bind fun x => pSigns T f n x.1 x.2
def pSigns (T : List Tk) : Nat → Nat → E → RQ → Option (E × RQ)
  | 0, _, _, _ => none
  | f + 1, n, a, q => if q.fe = 0 ∧ levelT n (cur T q) ≠ 0 then
      (pExpr T f (n + 1) (stepQ q)).bind fun x => pSigns T f n (Em (levelT n (cur T q)) 0 [] [] 0 [a, x.1] (cur T q).a) x.2
    else some (a, q)
def pUnary (T : List Tk) : Nat → RQ → Option (E × RQ)
  | 0, _ => none
  | f + 1, q => if isQ T q [45] || isQ T q [33] then
      (pExpr T f 5 (opensQ T q (cur T q).t)).bind fun x => some (Em (if isQ T q [45] then 12 else 13) 0 [] [] 0 [x.1] (cur T q).a, bumpQ x.2 (-1))
    else (pFirst T f q).bind fun x => pBehind T f x.1 x.2
def pBehind (T : List Tk) : Nat → E → RQ → Option (E × RQ)
  | 0, _, _ => none
  | f + 1, a, q => if isQ T q [46] then pBehind T f (Em 5 0 (nameQ T (stepQ q)).1 [] 0 [a] (cur T q).a) (nameQ T (stepQ q)).2
    else if isQ T q [91] then (pExpr T f 0 (opensQ T q [91])).bind fun x => pBehind T f (Em 6 0 [] [] 0 [a, x.1] (cur T q).a) (closesQ T x.2 [93])
    else some (a, q)
def pInner (T : List Tk) : Nat → RQ → Option (E × RQ)
  | 0, _ => none
  | f + 1, q => (pExpr T f 0 (opensQ T q [40])).bind fun x => some (x.1, closesQ T x.2 [41])
def pFirst (T : List Tk) : Nat → RQ → Option (E × RQ)
  | 0, _ => none
  | f + 1, q =>
    if q.fe = 0 ∧ (cur T q).k = 2 then some (Em 1 (cur T q).n [] [] 0 [] (cur T q).a, stepQ q)
    else if isQ T q [116, 114, 117, 101] || isQ T q [102, 97, 108, 115, 101] then some (Em 2 (if (cur T q).t = [116, 114, 117, 101] then 1 else 0) [] [] 0 [] (cur T q).a, stepQ q)
    else if isQ T q [110, 117, 108, 108] then some (Em 3 0 [] (ofQ T (stepQ q)).1.1 (ofQ T (stepQ q)).1.2 [] (cur T q).a, (ofQ T (stepQ q)).2)
    else if isQ T q [110, 101, 119] then pFresh T f (cur T q).a (stepQ q)
    else if isQ T q [108, 101, 110] then (pInner T f (stepQ q)).bind fun x => some (Em 10 0 [] [] 0 [x.1] (cur T q).a, x.2)
    else if isQ T q [114, 101, 97, 100] then some (Em 11 0 [] [] 0 [] (cur T q).a, closesQ T (opensQ T (stepQ q) [40]) [41])
    else if isQ T q [40] then pInner T f q
    else if isQ T (nameQ T q).2 [40] then (pArgs T f (nameQ T q).2).bind fun x => some (Em 7 0 (nameQ T q).1 [] 0 x.1 (cur T q).a, x.2)
    else some (Em 4 0 (nameQ T q).1 [] 0 [] (cur T q).a, (nameQ T q).2)
def pFresh (T : List Tk) : Nat → Int → RQ → Option (E × RQ)
  | 0, _, _ => none
  | f + 1, a, q => if isQ T q [91] then
      (pInner T f (takeQ T (ofQ T (stepQ q)).2 [93])).bind fun x => some (Em 9 0 [] (ofQ T (stepQ q)).1.1 (ofQ T (stepQ q)).1.2 [x.1] a, x.2)
    else some (Em 8 0 [] (nameQ T q).1 0 [] a, (nameQ T q).2)
def pArgs (T : List Tk) : Nat → RQ → Option (List E × RQ)
  | 0, _ => none
  | f + 1, q => if isQ T (opensQ T q [40]) [41] then some ([], closesQ T (opensQ T q [40]) [41])
    else (pExpr T f 0 (opensQ T q [40])).bind fun x => pMore T f [x.1] x.2
def pMore (T : List Tk) : Nat → List E → RQ → Option (List E × RQ)
  | 0, _, _ => none
  | f + 1, l, q => if isQ T q [44] then (pExpr T f 0 (stepQ q)).bind fun x => pMore T f (l ++ [x.1]) x.2
    else some (l, closesQ T q [41])
end

/-- A statement that begins with an expression. -/
def pPlain (T : List Tk) (f : Nat) (a : Int) (q : RQ) : Option (Sm × RQ) :=
  (pExpr T f 0 q).bind fun x => if isQ T x.2 [61] then
      (pExpr T f 0 (takeQ T (if x.1.k = 4 ∨ x.1.k = 5 ∨ x.1.k = 6 then x.2 else failQ T x.2 2) [61])).bind fun y =>
        some (if x.1.k = 4 then .mk 3 x.1.nm [] 0 [y.1] [] [] a 0 else .mk 4 [] [] 0 [x.1, y.1] [] [] a 0, takeQ T y.2 [59])
    else some (.mk 9 [] [] 0 [x.1] [] [] a 0, takeQ T (if isQ T x.2 [59] = true ∧ x.1.k ≠ 7 then failQ T x.2 2 else x.2) [59])

/-- A name, a colon, a type. -/
def paramQ (T : List Tk) (q : RQ) : PD × RQ :=
  (⟨(nameQ T q).1, (ofQ T (takeQ T (nameQ T q).2 [58])).1.1, (ofQ T (takeQ T (nameQ T q).2 [58])).1.2, (cur T q).a⟩, (ofQ T (takeQ T (nameQ T q).2 [58])).2)

mutual
def pStmt (T : List Tk) : Nat → RQ → Option (Sm × RQ)
  | 0, _ => none
  | f + 1, q =>
    if isQ T q [118, 97, 114] then
      some (.mk 1 (paramQ T (stepQ q)).1.name (paramQ T (stepQ q)).1.on (paramQ T (stepQ q)).1.od [] [] [] (cur T q).a 0, takeQ T (paramQ T (stepQ q)).2 [59])
    else if isQ T q [108, 101, 116] then (pExpr T f 0 (takeQ T (paramQ T (stepQ q)).2 [61])).bind fun x =>
      some (.mk 2 (paramQ T (stepQ q)).1.name (paramQ T (stepQ q)).1.on (paramQ T (stepQ q)).1.od [x.1] [] [] (cur T q).a 0, takeQ T x.2 [59])
    else if isQ T q [105, 102] then (pExpr T f 0 (stepQ q)).bind fun x => (pBlock T f x.2).bind fun y =>
      if isQ T y.2 [101, 108, 115, 101] then (pBlock T f (stepQ y.2)).bind fun z => some (.mk 5 [] [] 0 [x.1] y.1 z.1 (cur T q).a 0, z.2)
      else some (.mk 5 [] [] 0 [x.1] y.1 [] (cur T q).a 0, y.2)
    else if isQ T q [119, 104, 105, 108, 101] then (pExpr T f 0 (stepQ q)).bind fun x => (pBlock T f x.2).bind fun y =>
      some (.mk 6 [] [] 0 [x.1] y.1 [] (cur T q).a 0, y.2)
    else if isQ T q [114, 101, 116, 117, 114, 110] then
      if isQ T (stepQ q) [59] then some (.mk 7 [] [] 0 [] [] [] (cur T q).a 0, takeQ T (stepQ q) [59])
      else (pExpr T f 0 (stepQ q)).bind fun x => some (.mk 7 [] [] 0 [x.1] [] [] (cur T q).a 0, takeQ T x.2 [59])
    else if isQ T q [112, 114, 105, 110, 116] then (pExpr T f 0 (stepQ q)).bind fun x => some (.mk 8 [] [] 0 [x.1] [] [] (cur T q).a 0, takeQ T x.2 [59])
    else pPlain T f (cur T q).a q
def pBlock (T : List Tk) : Nat → RQ → Option (List Sm × RQ)
  | 0, _ => none
  | f + 1, q => pStmts T f [] (opensQ T q [123])
def pStmts (T : List Tk) : Nat → List Sm → RQ → Option (List Sm × RQ)
  | 0, _, _ => none
  | f + 1, l, q => if q.fe = 0 ∧ isQ T q [125] = false then (pStmt T f q).bind fun x => pStmts T f (l ++ [x.1]) x.2
    else some (l, closesQ T q [125])
end

/-- Fields of a record, up to the bracket that closes. -/
def pFields (T : List Tk) : Nat → List PD → RQ → Option (List PD × RQ)
  | 0, _, _ => none
  | f + 1, l, q => if q.fe = 0 ∧ isQ T q [125] = false then
      if (cur T q).k = 1 ∧ l.length = 8 then some (l, failQ T q 4)
      else pFields T f (l ++ [(paramQ T q).1]) (takeQ T (paramQ T q).2 [59])
    else some (l, q)
def pRecord (T : List Tk) (f : Nat) (q : RQ) : Option (Rc × RQ) :=
  (pFields T f [] (takeQ T (nameQ T q).2 [123])).bind fun x => some (⟨(nameQ T q).1, x.1, (cur T q).a⟩, takeQ T x.2 [125])
def commaQ (T : List Tk) (q : RQ) : RQ := if isQ T q [41] then q else if isQ T (takeQ T q [44]) [41] then failQ T (takeQ T q [44]) 2 else takeQ T q [44]
def pParams (T : List Tk) : Nat → List PD → RQ → Option (List PD × RQ)
  | 0, _, _ => none
  | f + 1, l, q => if q.fe = 0 ∧ isQ T q [41] = false then
      if (cur T q).k = 1 ∧ l.length = 6 then some (l, failQ T q 4)
      else pParams T f (l ++ [(paramQ T q).1]) (commaQ T (paramQ T q).2)
    else some (l, q)
def pFunc (T : List Tk) (f : Nat) (q : RQ) : Option (Fc × RQ) :=
  (pParams T f [] (takeQ T (nameQ T q).2 [40])).bind fun x =>
    if isQ T (takeQ T x.2 [41]) [58] then
      (pBlock T f (ofQ T (stepQ (takeQ T x.2 [41]))).2).bind fun y => some (⟨(nameQ T q).1, x.1, true, (ofQ T (stepQ (takeQ T x.2 [41]))).1.1, (ofQ T (stepQ (takeQ T x.2 [41]))).1.2, y.1, (cur T q).a⟩, y.2)
    else (pBlock T f (takeQ T x.2 [41])).bind fun y => some (⟨(nameQ T q).1, x.1, false, [], 0, y.1, (cur T q).a⟩, y.2)

def wRec : List UInt8 := [114, 101, 99, 111, 114, 100]
def wGlob : List UInt8 := [103, 108, 111, 98, 97, 108]
def wFunc : List UInt8 := [102, 117, 110, 99]
def pProg (T : List Tk) : Nat → Pg → RQ → Option (Pg × RQ)
  | 0, _, _ => none
  | f + 1, p, q => if q.fe = 0 ∧ (cur T q).k ≠ 0 then
      if isQ T q wRec = true ∧ p.recs.length = 12 ∨ isQ T q wGlob = true ∧ p.globals.length = 8 ∨ isQ T q wFunc = true ∧ p.funcs.length = 16 then pProg T f p (failQ T q 4)
      else if isQ T q wRec then (pRecord T f (stepQ q)).bind fun x => pProg T f ⟨p.recs ++ [x.1], p.globals, p.funcs⟩ x.2
      else if isQ T q wGlob then pProg T f ⟨p.recs, p.globals ++ [(paramQ T (stepQ q)).1], p.funcs⟩ (takeQ T (paramQ T (stepQ q)).2 [59])
      else if isQ T q wFunc then (pFunc T f (stepQ q)).bind fun x => pProg T f ⟨p.recs, p.globals, p.funcs ++ [x.1]⟩ x.2
      else pProg T f p (failQ T q 2)
    else some (p, q)
def Pg0 : Pg := ⟨[], [], []⟩
/-- The program of a list of tokens, and the fault. -/
def progOf (T : List Tk) (f : Nat) : Option (Pg × Int × Int) :=
  (pProg T f Pg0 ⟨0, 0, 0, 0⟩).bind fun x => some (if x.2.fe = 0 then (x.1, 0, 0) else (Pg0, x.2.fe, x.2.fa))
end Par

/-
  The parser in plain terms: where it goes, that it ends.
-/
namespace Par
open Ax Go V7

/-- From one state to a later one: never back, never beyond the end; behind a fault all stands still. -/
structure Good (T : List Tk) (q r : RQ) : Prop where
  le : q.at_ ≤ r.at_
  ub : q.at_ ≤ T.length → r.at_ ≤ T.length
  bad : q.fe ≠ 0 → r.fe = q.fe ∧ r.at_ = q.at_
theorem Good.refl (T : List Tk) (q : RQ) : Good T q q := ⟨Nat.le_refl _, id, fun _ => ⟨rfl, rfl⟩⟩
theorem Good.trans {T : List Tk} {q r s : RQ} (h : Good T q r) (k : Good T r s) : Good T q s :=
  ⟨Nat.le_trans h.le k.le, fun u => k.ub (h.ub u), fun b => by
    obtain ⟨a1, a2⟩ := h.bad b
    obtain ⟨b1, b2⟩ := k.bad (by rw [a1]; exact b)
    exact ⟨b1.trans a1, b2.trans a2⟩⟩
theorem Good.fe0 {T : List Tk} {q r : RQ} (h : Good T q r) (f : r.fe = 0) : q.fe = 0 := by
  apply Classical.byContradiction
  intro hn
  have := (h.bad hn).1
  rw [f] at this
  exact hn this.symm
theorem cur_in {T : List Tk} {q : RQ} (h : (cur T q).k ≠ 0) : q.at_ < T.length := by
  apply Classical.byContradiction
  intro hn
  rw [cur, List.getD, List.getElem?_eq_none (by omega)] at h
  exact h rfl
theorem kindOf_ne (s : List UInt8) : kindOf s ≠ 0 := by
  unfold kindOf
  split
  · split <;> decide
  · decide
theorem isQ_in {T : List Tk} {q : RQ} {s : List UInt8} (h : isQ T q s = true) : q.fe = 0 ∧ q.at_ < T.length := by
  simp only [isQ, Bool.and_eq_true, decide_eq_true_eq] at h
  exact ⟨h.1.1, cur_in (by rw [h.1.2]; exact kindOf_ne s)⟩
theorem isQ_t {T : List Tk} {q : RQ} {s : List UInt8} (h : isQ T q s = true) : (cur T q).t = s := by
  simp only [isQ, Bool.and_eq_true, decide_eq_true_eq] at h
  exact h.2
theorem isQ_k {T : List Tk} {q : RQ} {s : List UInt8} (h : isQ T q s = true) : (cur T q).k = kindOf s := by
  simp only [isQ, Bool.and_eq_true, decide_eq_true_eq] at h
  exact h.1.2
theorem isQ_bad {T : List Tk} {q : RQ} {s : List UInt8} (h : q.fe ≠ 0) : isQ T q s = false := by simp [isQ, h]
theorem level_in {T : List Tk} {q : RQ} {n : Nat} (h : levelT n (cur T q) ≠ 0) : q.at_ < T.length := cur_in (by
  unfold levelT at h
  split at h
  · rename_i e; rw [e]; decide
  · exact absurd rfl h)
theorem good_step {T : List Tk} {q : RQ} (h : q.fe = 0) (h2 : q.at_ < T.length) : Good T q (stepQ q) := ⟨Nat.le_succ _, fun _ => h2, fun b => absurd h b⟩
theorem good_fail {T : List Tk} {q : RQ} {e : Int} : Good T q (failQ T q e) := by
  unfold failQ
  split
  · rename_i h; exact ⟨Nat.le_refl _, id, fun b => absurd h b⟩
  · exact Good.refl T q
theorem good_bump {T : List Tk} {q : RQ} {d : Int} : Good T q (bumpQ q d) := ⟨Nat.le_refl _, id, fun _ => ⟨rfl, rfl⟩⟩
theorem good_take {T : List Tk} {q : RQ} {s : List UInt8} : Good T q (takeQ T q s) := by
  unfold takeQ
  split
  · rename_i h; exact good_step (isQ_in h).1 (isQ_in h).2
  · exact good_fail
theorem good_opens {T : List Tk} {q : RQ} {s : List UInt8} : Good T q (opensQ T q s) := by
  unfold opensQ
  split
  · exact good_fail
  · exact good_take.trans good_bump
theorem good_closes {T : List Tk} {q : RQ} {s : List UInt8} : Good T q (closesQ T q s) := good_take.trans good_bump
theorem good_name {T : List Tk} {q : RQ} : Good T q (nameQ T q).2 := by
  unfold nameQ
  split
  · rename_i h; exact good_step h.1 (cur_in (by rw [h.2]; decide))
  · exact good_fail
theorem good_takes {T : List Tk} {q : RQ} {s : List UInt8} : ∀ k, Good T q (takesQ T q s k)
  | 0 => Good.refl T q
  | k + 1 => (good_takes k).trans good_take
theorem good_ofL {T : List Tk} : ∀ (k d : Nat) (q : RQ), Good T q (ofL T k d q).2 ∧ (ofL T k d q).1 ≤ d + k ∧ d ≤ (ofL T k d q).1
  | 0, d, q => ⟨Good.refl T q, Nat.le_refl _, Nat.le_refl _⟩
  | k + 1, d, q => by
    unfold ofL
    split
    · rename_i h
      obtain ⟨h1, h2, h3⟩ := good_ofL (T := T) k (d + 1) (stepQ q)
      exact ⟨(good_step (isQ_in h).1 (isQ_in h).2).trans h1, by omega, by omega⟩
    · exact ⟨Good.refl T q, by simp, Nat.le_refl _⟩
theorem good_ofN {T : List Tk} {q : RQ} : Good T q (ofN T q).2 := by
  unfold ofN
  split
  · rename_i h
    rw [Bool.or_eq_true] at h
    rcases h with h | h <;> exact good_step (isQ_in h).1 (isQ_in h).2
  · exact good_name
theorem good_of {T : List Tk} {q : RQ} : Good T q (ofQ T q).2 := by
  unfold ofQ
  have h := (good_ofL (T := T) 3 0 q).1
  split
  · exact h.trans good_fail
  · exact (h.trans good_ofN).trans (good_takes _)
theorem of_dim {T : List Tk} {q : RQ} : 0 ≤ (ofQ T q).1.2 ∧ (ofQ T q).1.2 ≤ 3 := by
  have h := (good_ofL (T := T) 3 0 q).2.1
  unfold ofQ
  split
  · exact ⟨Int.le_refl _, by show (0:Int) ≤ 3; decide⟩
  · refine ⟨Int.natCast_nonneg _, ?_⟩
    simp only
    omega
theorem good_param {T : List Tk} {q : RQ} : Good T q (paramQ T q).2 := (good_name.trans good_take).trans good_of

/-- What is left to be read. -/
def mu (T : List Tk) (q : RQ) : Nat := if q.fe = 0 then T.length - q.at_ + 1 else 0
theorem mu_le {T : List Tk} {q r : RQ} (h : Good T q r) : mu T r ≤ mu T q := by
  unfold mu
  by_cases f : q.fe = 0
  · rw [if_pos f]
    split
    · have := h.le; omega
    · omega
  · obtain ⟨a1, _⟩ := h.bad f
    rw [a1, if_neg f, if_neg f]
    exact Nat.le_refl _
/-- It went on within the list, or there is a fault. -/
def Went (T : List Tk) (q r : RQ) : Prop := r.fe ≠ 0 ∨ q.at_ < T.length ∧ q.at_ < r.at_
theorem mu_lt {T : List Tk} {q r : RQ} (f : q.fe = 0) (w : Went T q r) : mu T r < mu T q := by
  unfold mu
  rw [if_pos f]
  rcases w with w | ⟨w, v⟩
  · rw [if_neg w]; omega
  · split <;> omega
theorem mu_went {T : List Tk} {q r : RQ} (h : Good T q r) (w : Went T q r) : mu T r ≤ mu T q - 1 := by
  by_cases f : q.fe = 0
  · have := mu_lt f w; omega
  · have h0 : mu T q = 0 := by unfold mu; rw [if_neg f]
    have := mu_le h
    omega
theorem mu_pos {T : List Tk} {q : RQ} (f : q.fe = 0) : 0 < mu T q := by unfold mu; rw [if_pos f]; omega
theorem fail_bad {T : List Tk} {q : RQ} {e : Int} (he : e ≠ 0) : (failQ T q e).fe ≠ 0 := by
  unfold failQ
  split
  · exact he
  · assumption
theorem went_step {T : List Tk} {q : RQ} (h : q.at_ < T.length) : Went T q (stepQ q) := .inr ⟨h, Nat.lt_succ_self _⟩
theorem went_take {T : List Tk} {q : RQ} {s : List UInt8} : Went T q (takeQ T q s) := by
  unfold takeQ
  split
  · rename_i h; exact went_step (isQ_in h).2
  · exact .inl (fail_bad (by decide))
theorem went_opens {T : List Tk} {q : RQ} {s : List UInt8} : Went T q (opensQ T q s) := by
  unfold opensQ
  split
  · exact .inl (fail_bad (by decide))
  · exact went_take
theorem went_closes {T : List Tk} {q : RQ} {s : List UInt8} : Went T q (closesQ T q s) := went_take
theorem went_name {T : List Tk} {q : RQ} : Went T q (nameQ T q).2 := by
  unfold nameQ
  split
  · rename_i h; exact went_step (cur_in (by rw [h.2]; decide))
  · exact .inl (fail_bad (by decide))
theorem Went.trans {T : List Tk} {q r s : RQ} (w : Went T q r) (h : Good T r s) : Went T q s := by
  rcases w with w | ⟨w, v⟩
  · exact .inl (by rw [(h.bad w).1]; exact w)
  · exact .inr ⟨w, Nat.lt_of_lt_of_le v h.le⟩
theorem Good.went {T : List Tk} {q r s : RQ} (h : Good T q r) (w : Went T r s) : Went T q s := by
  rcases w with w | ⟨w, v⟩
  · exact .inl w
  · exact .inr ⟨Nat.lt_of_le_of_lt h.le w, Nat.lt_of_le_of_lt h.le v⟩
theorem went_param {T : List Tk} {q : RQ} : Went T q (paramQ T q).2 := (went_name.trans good_take).trans good_of

/-! ### Expressions: where they go -/
theorem good_all (T : List Tk) : ∀ f : Nat, (∀ n q e r, pExpr T f n q = some (e, r) → Good T q r) ∧ (∀ n a q e r, pSigns T f n a q = some (e, r) → Good T q r) ∧
    (∀ q e r, pUnary T f q = some (e, r) → Good T q r) ∧ (∀ a q e r, pBehind T f a q = some (e, r) → Good T q r) ∧ (∀ q e r, pInner T f q = some (e, r) → Good T q r) ∧
    (∀ q e r, pFirst T f q = some (e, r) → Good T q r) ∧ (∀ a q e r, pFresh T f a q = some (e, r) → Good T q r) ∧ (∀ q e r, pArgs T f q = some (e, r) → Good T q r) ∧
    (∀ l q e r, pMore T f l q = some (e, r) → Good T q r)
  | 0 => by simp [pExpr, pSigns, pUnary, pBehind, pInner, pFirst, pFresh, pArgs, pMore]
  | f + 1 => by
    obtain ⟨hE, hS, hU, hB, hI, hF, hN, hA, hM⟩ := good_all T f
    refine ⟨fun n q e r h => ?_, fun n a q e r h => ?_, fun q e r h => ?_, fun a q e r h => ?_, fun q e r h => ?_, fun q e r h => ?_, fun a q e r h => ?_, fun q e r h => ?_, fun l q e r h => ?_⟩
    · unfold pExpr at h
      split at h
      · exact hU _ _ _ h
      · obtain ⟨⟨x1, x2⟩, h1, h2⟩ := Option.bind_eq_some_iff.1 h
        exact (hE _ _ _ _ h1).trans (hS _ _ _ _ _ h2)
    · unfold pSigns at h
      split at h
      · rename_i c
        obtain ⟨⟨x1, x2⟩, h1, h2⟩ := Option.bind_eq_some_iff.1 h
        exact ((good_step c.1 (level_in c.2)).trans (hE _ _ _ _ h1)).trans (hS _ _ _ _ _ h2)
      · cases h; exact Good.refl _ _
    · unfold pUnary at h
      split at h
      · obtain ⟨⟨x1, x2⟩, h1, h2⟩ := Option.bind_eq_some_iff.1 h
        cases h2
        exact (good_opens.trans (hE _ _ _ _ h1)).trans good_bump
      · obtain ⟨⟨x1, x2⟩, h1, h2⟩ := Option.bind_eq_some_iff.1 h
        exact (hF _ _ _ h1).trans (hB _ _ _ _ h2)
    · unfold pBehind at h
      split at h
      · rename_i c
        exact ((good_step (isQ_in c).1 (isQ_in c).2).trans good_name).trans (hB _ _ _ _ h)
      · split at h
        · obtain ⟨⟨x1, x2⟩, h1, h2⟩ := Option.bind_eq_some_iff.1 h
          exact ((good_opens.trans (hE _ _ _ _ h1)).trans good_closes).trans (hB _ _ _ _ h2)
        · cases h; exact Good.refl _ _
    · unfold pInner at h
      obtain ⟨⟨x1, x2⟩, h1, h2⟩ := Option.bind_eq_some_iff.1 h
      cases h2
      exact (good_opens.trans (hE _ _ _ _ h1)).trans good_closes
    · unfold pFirst at h
      split at h
      · rename_i c; cases h; exact good_step c.1 (cur_in (by rw [c.2]; decide))
      split at h
      · rename_i c; cases h
        rw [Bool.or_eq_true] at c
        rcases c with c | c <;> exact good_step (isQ_in c).1 (isQ_in c).2
      split at h
      · rename_i c; cases h; exact (good_step (isQ_in c).1 (isQ_in c).2).trans good_of
      split at h
      · rename_i c; exact (good_step (isQ_in c).1 (isQ_in c).2).trans (hN _ _ _ _ h)
      split at h
      · rename_i c
        obtain ⟨⟨x1, x2⟩, h1, h2⟩ := Option.bind_eq_some_iff.1 h
        cases h2
        exact (good_step (isQ_in c).1 (isQ_in c).2).trans (hI _ _ _ h1)
      split at h
      · rename_i c; cases h; exact ((good_step (isQ_in c).1 (isQ_in c).2).trans good_opens).trans good_closes
      split at h
      · exact hI _ _ _ h
      split at h
      · obtain ⟨⟨x1, x2⟩, h1, h2⟩ := Option.bind_eq_some_iff.1 h
        cases h2
        exact good_name.trans (hA _ _ _ h1)
      · cases h; exact good_name
    · unfold pFresh at h
      split at h
      · rename_i c
        obtain ⟨⟨x1, x2⟩, h1, h2⟩ := Option.bind_eq_some_iff.1 h
        cases h2
        exact (((good_step (isQ_in c).1 (isQ_in c).2).trans good_of).trans good_take).trans (hI _ _ _ h1)
      · cases h; exact good_name
    · unfold pArgs at h
      split at h
      · cases h; exact good_opens.trans good_closes
      · obtain ⟨⟨x1, x2⟩, h1, h2⟩ := Option.bind_eq_some_iff.1 h
        exact (good_opens.trans (hE _ _ _ _ h1)).trans (hM _ _ _ _ h2)
    · unfold pMore at h
      split at h
      · rename_i c
        obtain ⟨⟨x1, x2⟩, h1, h2⟩ := Option.bind_eq_some_iff.1 h
        exact ((good_step (isQ_in c).1 (isQ_in c).2).trans (hE _ _ _ _ h1)).trans (hM _ _ _ _ h2)
      · cases h; exact good_closes
theorem good_expr {T : List Tk} {f n : Nat} {q r : RQ} {e : E} (h : pExpr T f n q = some (e, r)) : Good T q r := (good_all T f).1 _ _ _ _ h

/-! ### They end -/
theorem bind_some {α β : Type} {x : Option α} {g : α → Option β} (h1 : ∃ a, x = some a) (h2 : ∀ a, x = some a → ∃ b, g a = some b) : ∃ b, x.bind g = some b := by
  obtain ⟨a, ha⟩ := h1
  obtain ⟨b, hb⟩ := h2 a ha
  exact ⟨b, by rw [ha]; exact hb⟩
theorem some_all (T : List Tk) : ∀ f : Nat, (∀ n q, n ≤ 5 → 40 * mu T q + 12 ≤ f + n → ∃ x, pExpr T f n q = some x) ∧ (∀ n a q, n < 5 → 40 * mu T q + 1 ≤ f → ∃ x, pSigns T f n a q = some x) ∧
    (∀ q, 40 * mu T q + 6 ≤ f → ∃ x, pUnary T f q = some x) ∧ (∀ a q, 40 * mu T q + 1 ≤ f → ∃ x, pBehind T f a q = some x) ∧ (∀ q, 40 * (mu T q - 1) + 13 ≤ f → ∃ x, pInner T f q = some x) ∧
    (∀ q, 40 * mu T q + 5 ≤ f → ∃ x, pFirst T f q = some x) ∧ (∀ a q, 40 * mu T q + 15 ≤ f → ∃ x, pFresh T f a q = some x) ∧ (∀ q, 40 * (mu T q - 1) + 13 ≤ f → ∃ x, pArgs T f q = some x) ∧
    (∀ l q, 40 * mu T q + 1 ≤ f → ∃ x, pMore T f l q = some x)
  | 0 => by
    refine ⟨fun n q h1 h2 => ?_, fun n a q h1 h2 => ?_, fun q h => ?_, fun a q h => ?_, fun q h => ?_, fun q h => ?_, fun a q h => ?_, fun q h => ?_, fun l q h => ?_⟩ <;> omega
  | f + 1 => by
    obtain ⟨hE, hS, hU, hB, hI, hF, hN, hA, hM⟩ := some_all T f
    obtain ⟨gE, gS, gU, gB, gI, gF, gN, gA, gM⟩ := good_all T f
    refine ⟨fun n q h1 h2 => ?_, fun n a q h1 h2 => ?_, fun q h => ?_, fun a q h => ?_, fun q h => ?_, fun q h => ?_, fun a q h => ?_, fun q h => ?_, fun l q h => ?_⟩
    · unfold pExpr
      split
      · exact hU _ (by omega)
      · refine bind_some (hE _ _ (by omega) (by omega)) fun ⟨x1, x2⟩ h3 => ?_
        try dsimp only
        have := mu_le (gE _ _ _ _ h3)
        exact hS _ _ _ (by omega) (by omega)
    · unfold pSigns
      split
      · rename_i c
        have m1 := mu_went (good_step c.1 (level_in c.2)) (went_step (level_in c.2))
        have m0 := mu_pos (T := T) c.1
        refine bind_some (hE _ _ (by omega) (by omega)) fun ⟨x1, x2⟩ h3 => ?_
        try dsimp only
        have := mu_le (gE _ _ _ _ h3)
        exact hS _ _ _ (by omega) (by omega)
      · exact ⟨_, rfl⟩
    · unfold pUnary
      split
      · rename_i c
        rw [Bool.or_eq_true] at c
        have c0 : q.fe = 0 := by rcases c with c | c <;> exact (isQ_in c).1
        have m1 := mu_went (T := T) (q := q) (good_opens (s := (cur T q).t)) went_opens
        have m0 := mu_pos (T := T) c0
        exact bind_some (hE _ _ (by omega) (by omega)) fun x _ => ⟨_, rfl⟩
      · refine bind_some (hF _ (by omega)) fun ⟨x1, x2⟩ h3 => ?_
        try dsimp only
        have := mu_le (gF _ _ _ h3)
        exact hB _ _ (by omega)
    · unfold pBehind
      split
      · rename_i c
        have m1 := mu_went ((good_step (isQ_in c).1 (isQ_in c).2).trans good_name) ((went_step (isQ_in c).2).trans good_name)
        have m0 := mu_pos (T := T) (isQ_in c).1
        exact hB _ _ (by omega)
      · split
        · rename_i c
          have m0 := mu_pos (T := T) (isQ_in c).1
          have m1 := mu_went (T := T) (q := q) (good_opens (s := [91])) went_opens
          refine bind_some (hE _ _ (by omega) (by omega)) fun ⟨x1, x2⟩ h3 => ?_
          try dsimp only
          have m2 := mu_le ((gE _ _ _ _ h3).trans (good_closes (s := [93])))
          exact hB _ _ (by omega)
        · exact ⟨_, rfl⟩
    · unfold pInner
      have m1 := mu_went (T := T) (q := q) (good_opens (s := [40])) went_opens
      exact bind_some (hE _ _ (by omega) (by omega)) fun x _ => ⟨_, rfl⟩
    · unfold pFirst
      split
      · exact ⟨_, rfl⟩
      split
      · exact ⟨_, rfl⟩
      split
      · exact ⟨_, rfl⟩
      split
      · rename_i c
        have m1 := mu_went (good_step (isQ_in c).1 (isQ_in c).2) (went_step (isQ_in c).2)
        have m0 := mu_pos (T := T) (isQ_in c).1
        exact hN _ _ (by omega)
      split
      · rename_i c
        have m1 := mu_went (good_step (isQ_in c).1 (isQ_in c).2) (went_step (isQ_in c).2)
        have m0 := mu_pos (T := T) (isQ_in c).1
        exact bind_some (hI _ (by omega)) fun x _ => ⟨_, rfl⟩
      split
      · exact ⟨_, rfl⟩
      split
      · rename_i c
        have m0 := mu_pos (T := T) (isQ_in c).1
        exact hI _ (by omega)
      split
      · rename_i c
        have m0 := mu_pos (T := T) (isQ_in c).1
        have m1 := mu_le (T := T) (q := q) good_name
        exact bind_some (hA _ (by omega)) fun x _ => ⟨_, rfl⟩
      · exact ⟨_, rfl⟩
    · unfold pFresh
      split
      · rename_i c
        have m1 := mu_le (((good_step (isQ_in c).1 (isQ_in c).2).trans good_of).trans (good_take (s := [93])))
        exact bind_some (hI _ (by omega)) fun x _ => ⟨_, rfl⟩
      · exact ⟨_, rfl⟩
    · unfold pArgs
      split
      · exact ⟨_, rfl⟩
      · have m1 := mu_went (T := T) (q := q) (good_opens (s := [40])) went_opens
        refine bind_some (hE _ _ (by omega) (by omega)) fun ⟨x1, x2⟩ h3 => ?_
        try dsimp only
        have := mu_le (gE _ _ _ _ h3)
        exact hM _ _ (by omega)
    · unfold pMore
      split
      · rename_i c
        have m1 := mu_went (good_step (isQ_in c).1 (isQ_in c).2) (went_step (isQ_in c).2)
        have m0 := mu_pos (T := T) (isQ_in c).1
        refine bind_some (hE _ _ (by omega) (by omega)) fun ⟨x1, x2⟩ h3 => ?_
        try dsimp only
        have := mu_le (gE _ _ _ _ h3)
        exact hM _ _ (by omega)
      · exact ⟨_, rfl⟩
theorem some_expr {T : List Tk} {f : Nat} {q : RQ} (h : 40 * mu T q + 12 ≤ f) : ∃ x, pExpr T f 0 q = some x := (some_all T f).1 0 q (by omega) (by omega)

/-! ### Statements -/
theorem good_plain {T : List Tk} {f : Nat} {a : Int} {q r : RQ} {s : Sm} (h : pPlain T f a q = some (s, r)) : Good T q r ∧ Went T q r := by
  unfold pPlain at h
  obtain ⟨⟨x1, x2⟩, h1, h2⟩ := Option.bind_eq_some_iff.1 h
  have g1 := good_expr h1
  dsimp only at h2
  split at h2
  · obtain ⟨⟨y1, y2⟩, h3, h4⟩ := Option.bind_eq_some_iff.1 h2
    cases h4
    have g2 : Good T x2 (takeQ T (if x1.k = 4 ∨ x1.k = 5 ∨ x1.k = 6 then x2 else failQ T x2 2) [61]) := by
      refine Good.trans ?_ good_take
      split
      · exact Good.refl _ _
      · exact good_fail
    have g3 := (g1.trans g2).trans (good_expr h3)
    exact ⟨g3.trans good_take, g3.went went_take⟩
  · cases h2
    have g2 : Good T x2 (if isQ T x2 [59] = true ∧ x1.k ≠ 7 then failQ T x2 2 else x2) := by
      split
      · exact good_fail
      · exact Good.refl _ _
    exact ⟨(g1.trans g2).trans good_take, (g1.trans g2).went went_take⟩
theorem good_stall (T : List Tk) : ∀ f : Nat, (∀ q s r, pStmt T f q = some (s, r) → Good T q r ∧ Went T q r) ∧ (∀ q s r, pBlock T f q = some (s, r) → Good T q r ∧ Went T q r) ∧
    (∀ l q s r, pStmts T f l q = some (s, r) → Good T q r)
  | 0 => by simp [pStmt, pBlock, pStmts]
  | f + 1 => by
    obtain ⟨hS, hB, hL⟩ := good_stall T f
    refine ⟨fun q s r h => ?_, fun q s r h => ?_, fun l q s r h => ?_⟩
    · unfold pStmt at h
      split at h
      · rename_i c; cases h
        have g := (good_step (isQ_in c).1 (isQ_in c).2).trans good_param
        exact ⟨g.trans good_take, g.went went_take⟩
      split at h
      · rename_i c
        obtain ⟨⟨x1, x2⟩, h1, h2⟩ := Option.bind_eq_some_iff.1 h
        cases h2
        have g := (((good_step (isQ_in c).1 (isQ_in c).2).trans good_param).trans good_take).trans (good_expr h1)
        exact ⟨g.trans good_take, g.went went_take⟩
      split at h
      · rename_i c
        obtain ⟨⟨x1, x2⟩, h1, h2⟩ := Option.bind_eq_some_iff.1 h
        obtain ⟨⟨y1, y2⟩, h3, h4⟩ := Option.bind_eq_some_iff.1 h2
        have g1 := (good_step (isQ_in c).1 (isQ_in c).2).trans (good_expr h1)
        have g := g1.trans (hB _ _ _ h3).1
        have w := g1.went (hB _ _ _ h3).2
        dsimp only at h4
        split at h4
        · rename_i d
          obtain ⟨⟨z1, z2⟩, h5, h6⟩ := Option.bind_eq_some_iff.1 h4
          cases h6
          have g2 := (good_step (isQ_in d).1 (isQ_in d).2).trans (hB _ _ _ h5).1
          exact ⟨g.trans g2, w.trans g2⟩
        · cases h4; exact ⟨g, w⟩
      split at h
      · rename_i c
        obtain ⟨⟨x1, x2⟩, h1, h2⟩ := Option.bind_eq_some_iff.1 h
        obtain ⟨⟨y1, y2⟩, h3, h4⟩ := Option.bind_eq_some_iff.1 h2
        cases h4
        have g1 := (good_step (isQ_in c).1 (isQ_in c).2).trans (good_expr h1)
        exact ⟨g1.trans (hB _ _ _ h3).1, g1.went (hB _ _ _ h3).2⟩
      split at h
      · rename_i c
        have g1 := good_step (isQ_in c).1 (isQ_in c).2
        split at h
        · cases h; exact ⟨g1.trans good_take, g1.went went_take⟩
        · obtain ⟨⟨x1, x2⟩, h1, h2⟩ := Option.bind_eq_some_iff.1 h
          cases h2
          have g := g1.trans (good_expr h1)
          exact ⟨g.trans good_take, g.went went_take⟩
      split at h
      · rename_i c
        obtain ⟨⟨x1, x2⟩, h1, h2⟩ := Option.bind_eq_some_iff.1 h
        cases h2
        have g := (good_step (isQ_in c).1 (isQ_in c).2).trans (good_expr h1)
        exact ⟨g.trans good_take, g.went went_take⟩
      · exact good_plain h
    · unfold pBlock at h
      have g := hL _ _ _ _ h
      exact ⟨good_opens.trans g, went_opens.trans g⟩
    · unfold pStmts at h
      split at h
      · obtain ⟨⟨x1, x2⟩, h1, h2⟩ := Option.bind_eq_some_iff.1 h
        exact (hS _ _ _ h1).1.trans (hL _ _ _ _ h2)
      · cases h; exact good_closes
theorem some_plain {T : List Tk} {f : Nat} {a : Int} {q : RQ} (h : 40 * mu T q + 12 ≤ f) : ∃ x, pPlain T f a q = some x := by
  unfold pPlain
  refine bind_some (some_expr h) fun ⟨x1, x2⟩ h1 => ?_
  try dsimp only
  have m1 := mu_le (good_expr h1)
  split
  · have g2 : Good T x2 (takeQ T (if x1.k = 4 ∨ x1.k = 5 ∨ x1.k = 6 then x2 else failQ T x2 2) [61]) := by
      refine Good.trans ?_ good_take
      split
      · exact Good.refl _ _
      · exact good_fail
    have m2 := mu_le g2
    exact bind_some (some_expr (by omega)) fun x _ => ⟨_, rfl⟩
  · exact ⟨_, rfl⟩
theorem some_stall (T : List Tk) : ∀ f : Nat, (∀ q, 40 * mu T q + 15 ≤ f → ∃ x, pStmt T f q = some x) ∧ (∀ q, 40 * (mu T q - 1) + 18 ≤ f → ∃ x, pBlock T f q = some x) ∧
    (∀ l q, 40 * mu T q + 17 ≤ f → ∃ x, pStmts T f l q = some x)
  | 0 => by refine ⟨fun q h => ?_, fun q h => ?_, fun l q h => ?_⟩ <;> omega
  | f + 1 => by
    obtain ⟨hS, hB, hL⟩ := some_stall T f
    obtain ⟨gS, gB, gL⟩ := good_stall T f
    refine ⟨fun q h => ?_, fun q h => ?_, fun l q h => ?_⟩
    · have one : ∀ s, isQ T q s = true → mu T (stepQ q) ≤ mu T q - 1 ∧ 0 < mu T q := fun s c => ⟨mu_went (good_step (isQ_in c).1 (isQ_in c).2) (went_step (isQ_in c).2), mu_pos (isQ_in c).1⟩
      unfold pStmt
      split
      · exact ⟨_, rfl⟩
      split
      · rename_i c
        have m0 := one _ c
        have m1 := mu_le (T := T) (q := stepQ q) (good_param.trans (good_take (s := [61])))
        exact bind_some (some_expr (by omega)) fun x _ => ⟨_, rfl⟩
      split
      · rename_i c
        have m0 := one _ c
        refine bind_some (some_expr (by omega)) fun ⟨x1, x2⟩ h1 => ?_
        try dsimp only
        have m1 := mu_le (good_expr h1)
        refine bind_some (hB _ (by omega)) fun ⟨y1, y2⟩ h2 => ?_
        try dsimp only
        have m2 := mu_le (gB _ _ _ h2).1
        split
        · rename_i d
          have m3 := mu_le (good_step (isQ_in d).1 (isQ_in d).2)
          exact bind_some (hB _ (by omega)) fun x _ => ⟨_, rfl⟩
        · exact ⟨_, rfl⟩
      split
      · rename_i c
        have m0 := one _ c
        refine bind_some (some_expr (by omega)) fun ⟨x1, x2⟩ h1 => ?_
        try dsimp only
        have m1 := mu_le (good_expr h1)
        exact bind_some (hB _ (by omega)) fun x _ => ⟨_, rfl⟩
      split
      · rename_i c
        have m0 := one _ c
        split
        · exact ⟨_, rfl⟩
        · exact bind_some (some_expr (by omega)) fun x _ => ⟨_, rfl⟩
      split
      · rename_i c
        have m0 := one _ c
        exact bind_some (some_expr (by omega)) fun x _ => ⟨_, rfl⟩
      · exact some_plain (by omega)
    · unfold pBlock
      have m1 := mu_went (T := T) (q := q) (good_opens (s := [123])) went_opens
      exact hL _ _ (by omega)
    · unfold pStmts
      split
      · rename_i c
        refine bind_some (hS _ (by omega)) fun ⟨x1, x2⟩ h1 => ?_
        try dsimp only
        have m1 := mu_lt c.1 (gS _ _ _ h1).2
        exact hL _ _ (by omega)
      · exact ⟨_, rfl⟩
theorem good_block {T : List Tk} {f : Nat} {q r : RQ} {s : List Sm} (h : pBlock T f q = some (s, r)) : Good T q r ∧ Went T q r := (good_stall T f).2.1 _ _ _ h
theorem some_block {T : List Tk} {f : Nat} {q : RQ} (h : 40 * mu T q + 18 ≤ f) : ∃ x, pBlock T f q = some x := (some_stall T f).2.1 _ (by omega)

/-! ### Declarations, programs -/
theorem good_fields (T : List Tk) : ∀ (f : Nat) (l : List PD) (q : RQ) (s : List PD) (r : RQ), pFields T f l q = some (s, r) → Good T q r
  | 0, _, _, _, _, h => by simp [pFields] at h
  | f + 1, l, q, s, r, h => by
    unfold pFields at h
    split at h
    · split at h
      · cases h; exact good_fail
      · exact (good_param.trans good_take).trans (good_fields T f _ _ _ _ h)
    · cases h; exact Good.refl _ _
theorem some_fields (T : List Tk) : ∀ (f : Nat) (l : List PD) (q : RQ), mu T q < f → ∃ x, pFields T f l q = some x
  | 0, _, _, h => absurd h (by omega)
  | f + 1, l, q, h => by
    unfold pFields
    split
    · rename_i c
      split
      · exact ⟨_, rfl⟩
      · have := mu_lt c.1 ((went_param (T := T) (q := q)).trans (good_take (s := [59])))
        exact some_fields T f _ _ (by omega)
    · exact ⟨_, rfl⟩
theorem good_record {T : List Tk} {f : Nat} {q r : RQ} {s : Rc} (h : pRecord T f q = some (s, r)) : Good T q r ∧ Went T q r := by
  unfold pRecord at h
  obtain ⟨⟨x1, x2⟩, h1, h2⟩ := Option.bind_eq_some_iff.1 h
  cases h2
  have g := (good_take (T := T) (s := [123])).trans (good_fields T f _ _ _ _ h1)
  exact ⟨(good_name.trans g).trans good_take, ((went_name.trans g)).trans good_take⟩
theorem some_record {T : List Tk} {f : Nat} {q : RQ} (h : mu T q < f) : ∃ x, pRecord T f q = some x := by
  unfold pRecord
  have m := mu_le (T := T) (q := q) (good_name.trans (good_take (s := [123])))
  exact bind_some (some_fields T f _ _ (by omega)) fun x _ => ⟨_, rfl⟩
theorem good_comma {T : List Tk} {q : RQ} : Good T q (commaQ T q) := by
  unfold commaQ
  split
  · exact Good.refl _ _
  · split
    · exact good_take.trans good_fail
    · exact good_take
theorem good_params (T : List Tk) : ∀ (f : Nat) (l : List PD) (q : RQ) (s : List PD) (r : RQ), pParams T f l q = some (s, r) → Good T q r
  | 0, _, _, _, _, h => by simp [pParams] at h
  | f + 1, l, q, s, r, h => by
    unfold pParams at h
    split at h
    · split at h
      · cases h; exact good_fail
      · exact (good_param.trans good_comma).trans (good_params T f _ _ _ _ h)
    · cases h; exact Good.refl _ _
theorem some_params (T : List Tk) : ∀ (f : Nat) (l : List PD) (q : RQ), mu T q < f → ∃ x, pParams T f l q = some x
  | 0, _, _, h => absurd h (by omega)
  | f + 1, l, q, h => by
    unfold pParams
    split
    · rename_i c
      split
      · exact ⟨_, rfl⟩
      · have := mu_lt c.1 ((went_param (T := T) (q := q)).trans good_comma)
        exact some_params T f _ _ (by omega)
    · exact ⟨_, rfl⟩
theorem good_func {T : List Tk} {f : Nat} {q r : RQ} {s : Fc} (h : pFunc T f q = some (s, r)) : Good T q r ∧ Went T q r := by
  unfold pFunc at h
  obtain ⟨⟨x1, x2⟩, h1, h2⟩ := Option.bind_eq_some_iff.1 h
  have g := ((good_take (T := T) (s := [40])).trans (good_params T f _ _ _ _ h1)).trans (good_take (s := [41]))
  have gg := good_name.trans g
  dsimp only at h2
  split at h2
  · rename_i d
    obtain ⟨⟨y1, y2⟩, h3, h4⟩ := Option.bind_eq_some_iff.1 h2
    cases h4
    have g2 := ((good_step (isQ_in d).1 (isQ_in d).2).trans good_of).trans (good_block h3).1
    exact ⟨gg.trans g2, (went_name.trans g).trans g2⟩
  · obtain ⟨⟨y1, y2⟩, h3, h4⟩ := Option.bind_eq_some_iff.1 h2
    cases h4
    have g2 := (good_block h3).1
    exact ⟨gg.trans g2, (went_name.trans g).trans g2⟩
theorem some_func {T : List Tk} {f : Nat} {q : RQ} (h : 40 * mu T q + 18 ≤ f) : ∃ x, pFunc T f q = some x := by
  unfold pFunc
  have m := mu_le (T := T) (q := q) (good_name.trans (good_take (s := [40])))
  refine bind_some (some_params T f _ _ (by omega)) fun ⟨x1, x2⟩ h1 => ?_
  try dsimp only
  have m1 := mu_le ((good_params T f _ _ _ _ h1).trans (good_take (s := [41])))
  split
  · rename_i d
    have m2 := mu_le ((good_step (isQ_in d).1 (isQ_in d).2).trans good_of)
    exact bind_some (some_block (by omega)) fun x _ => ⟨_, rfl⟩
  · exact bind_some (some_block (by omega)) fun x _ => ⟨_, rfl⟩
theorem some_prog (T : List Tk) : ∀ (f : Nat) (p : Pg) (q : RQ), 40 * mu T q + 19 ≤ f → ∃ x, pProg T f p q = some x
  | 0, _, _, h => absurd h (by omega)
  | f + 1, p, q, h => by
    unfold pProg
    split
    · rename_i c
      have m0 := mu_pos (T := T) c.1
      have w1 := mu_lt c.1 (T := T) (r := failQ T q 4) (.inl (fail_bad (by decide)))
      have w2 := mu_lt c.1 (T := T) (r := failQ T q 2) (.inl (fail_bad (by decide)))
      have m1 := mu_lt c.1 (went_step (cur_in c.2))
      split
      · exact some_prog T f _ _ (by omega)
      split
      · refine bind_some (some_record (by omega)) fun ⟨x1, x2⟩ h1 => ?_
        try dsimp only
        have := mu_le (good_record h1).1
        exact some_prog T f _ _ (by omega)
      split
      · have := mu_le (T := T) (q := stepQ q) (good_param.trans (good_take (s := [59])))
        exact some_prog T f _ _ (by omega)
      split
      · refine bind_some (some_func (by omega)) fun ⟨x1, x2⟩ h1 => ?_
        try dsimp only
        have := mu_le (good_func h1).1
        exact some_prog T f _ _ (by omega)
      · exact some_prog T f _ _ (by omega)
    · exact ⟨_, rfl⟩
theorem some_progOf (T : List Tk) : ∃ x, progOf T (40 * T.length + 100) = some x := by
  unfold progOf
  exact bind_some (some_prog T _ _ _ (by simp [mu]; omega)) fun x _ => ⟨_, rfl⟩
end Par

/-
  What is read: places within the text, so many at most.
-/
namespace Par
open Ax Go V7

def InN (T : List Tk) (N : Int) : Prop := 0 ≤ N ∧ ∀ x ∈ T, 0 ≤ x.a ∧ x.a ≤ N
theorem cur_at {T : List Tk} {N : Int} (h : InN T N) (q : RQ) : 0 ≤ (cur T q).a ∧ (cur T q).a ≤ N := by
  by_cases hl : q.at_ < T.length
  · have : cur T q = T[q.at_] := by simp [cur, hl]
    rw [this]
    exact h.2 _ (List.getElem_mem hl)
  · have hc : cur T q = Tk0 := by simp [cur, List.getD, List.getElem?_eq_none (Nat.le_of_not_lt hl)]
    rw [hc]
    exact ⟨Int.le_refl _, h.1⟩
def PDin (N : Int) (p : PD) : Prop := 0 ≤ p.od ∧ p.od ≤ 3 ∧ 0 ≤ p.at_ ∧ p.at_ ≤ N
theorem param_in {T : List Tk} {N : Int} (h : InN T N) (q : RQ) : PDin N (paramQ T q).1 := ⟨of_dim.1, of_dim.2, (cur_at h q).1, (cur_at h q).2⟩
structure Rc.In (N : Int) (r : Rc) : Prop where
  a : 0 ≤ r.a ∧ r.a ≤ N
  len : r.fields.length ≤ 9
  f : ∀ p ∈ r.fields, PDin N p
structure Fc.In (N : Int) (r : Fc) : Prop where
  a : 0 ≤ r.a ∧ r.a ≤ N
  len : r.params.length ≤ 7
  f : ∀ p ∈ r.params, PDin N p
  od : 0 ≤ r.od ∧ r.od ≤ 3
structure Pg.In (N : Int) (p : Pg) : Prop where
  r : p.recs.length ≤ 12 ∧ ∀ x ∈ p.recs, Rc.In N x
  g : p.globals.length ≤ 8 ∧ ∀ x ∈ p.globals, PDin N x
  f : p.funcs.length ≤ 16 ∧ ∀ x ∈ p.funcs, Fc.In N x
theorem mem_snoc {α : Type} {P : α → Prop} {l : List α} {a : α} (h : ∀ x ∈ l, P x) (ha : P a) : ∀ x ∈ l ++ [a], P x := by
  intro x hx
  rcases List.mem_append.1 hx with h1 | h1
  · exact h x h1
  · rw [List.mem_singleton.1 h1]; exact ha
theorem name_bad {T : List Tk} {q : RQ} (h : (cur T q).k ≠ 1) : (nameQ T q).2.fe ≠ 0 := by
  unfold nameQ
  rw [if_neg (fun e => h e.2)]
  exact fail_bad (by decide)
theorem param_bad {T : List Tk} {q : RQ} (h : (cur T q).k ≠ 1) : (paramQ T q).2.fe ≠ 0 := by
  have g : Good T (nameQ T q).2 (paramQ T q).2 := good_take.trans good_of
  rw [(g.bad (name_bad h)).1]
  exact name_bad h
theorem fields_in {T : List Tk} {N : Int} (hN : InN T N) : ∀ (f : Nat) (l : List PD) (q : RQ) (s : List PD) (r : RQ), pFields T f l q = some (s, r) → (∀ p ∈ l, PDin N p) → (l.length ≤ 8 ∨ q.fe ≠ 0 ∧ l.length ≤ 9) →
    (∀ p ∈ s, PDin N p) ∧ (s.length ≤ 8 ∨ r.fe ≠ 0 ∧ s.length ≤ 9)
  | 0, _, _, _, _, h, _, _ => by simp [pFields] at h
  | f + 1, l, q, s, r, h, hl, hn => by
    unfold pFields at h
    split at h
    · rename_i c
      have h8 : l.length ≤ 8 := by
        rcases hn with hn | hn
        · exact hn
        · exact absurd c.1 hn.1
      split at h
      · rename_i c2
        cases h; exact ⟨hl, .inl h8⟩
      · rename_i c2
        refine fields_in hN f _ _ _ _ h (mem_snoc hl (param_in hN q)) ?_
        by_cases hk : (cur T q).k = 1
        · exact .inl (by
            have : l.length ≠ 8 := fun e => c2 ⟨hk, e⟩
            simp; omega)
        · refine .inr ⟨?_, by simp; omega⟩
          have g := good_take (T := T) (q := (paramQ T q).2) (s := [59])
          rw [(g.bad (param_bad hk)).1]
          exact param_bad hk
    · cases h; exact ⟨hl, hn⟩
theorem params_in {T : List Tk} {N : Int} (hN : InN T N) : ∀ (f : Nat) (l : List PD) (q : RQ) (s : List PD) (r : RQ), pParams T f l q = some (s, r) → (∀ p ∈ l, PDin N p) → (l.length ≤ 6 ∨ q.fe ≠ 0 ∧ l.length ≤ 7) →
    (∀ p ∈ s, PDin N p) ∧ (s.length ≤ 6 ∨ r.fe ≠ 0 ∧ s.length ≤ 7)
  | 0, _, _, _, _, h, _, _ => by simp [pParams] at h
  | f + 1, l, q, s, r, h, hl, hn => by
    unfold pParams at h
    split at h
    · rename_i c
      have h8 : l.length ≤ 6 := by
        rcases hn with hn | hn
        · exact hn
        · exact absurd c.1 hn.1
      split at h
      · rename_i c2
        cases h; exact ⟨hl, .inl h8⟩
      · rename_i c2
        refine params_in hN f _ _ _ _ h (mem_snoc hl (param_in hN q)) ?_
        by_cases hk : (cur T q).k = 1
        · exact .inl (by
            have : l.length ≠ 6 := fun e => c2 ⟨hk, e⟩
            simp; omega)
        · refine .inr ⟨?_, by simp; omega⟩
          have g := good_comma (T := T) (q := (paramQ T q).2)
          rw [(g.bad (param_bad hk)).1]
          exact param_bad hk
    · cases h; exact ⟨hl, hn⟩
theorem record_in {T : List Tk} {N : Int} (hN : InN T N) {f : Nat} {q r : RQ} {s : Rc} (h : pRecord T f q = some (s, r)) : Rc.In N s ∧ (r.fe = 0 → s.fields.length ≤ 8) := by
  unfold pRecord at h
  obtain ⟨⟨x1, x2⟩, h1, h2⟩ := Option.bind_eq_some_iff.1 h
  cases h2
  obtain ⟨a, b⟩ := fields_in hN _ _ _ _ _ h1 (by simp) (by simp)
  refine ⟨⟨cur_at hN q, by rcases b with b | b <;> simp only <;> omega, a⟩, fun e => ?_⟩
  rcases b with b | b
  · exact b
  · exact absurd (good_take.fe0 e) b.1
theorem func_in {T : List Tk} {N : Int} (hN : InN T N) {f : Nat} {q r : RQ} {s : Fc} (h : pFunc T f q = some (s, r)) : Fc.In N s ∧ (r.fe = 0 → s.params.length ≤ 6) := by
  unfold pFunc at h
  obtain ⟨⟨x1, x2⟩, h1, h2⟩ := Option.bind_eq_some_iff.1 h
  obtain ⟨a, b⟩ := params_in hN _ _ _ _ _ h1 (by simp) (by simp)
  have hc := cur_at hN q
  have fin : ∀ r : RQ, Good T x2 r → r.fe = 0 → x1.length ≤ 6 := fun r g e => by
    rcases b with b | b
    · exact b
    · exact absurd (g.fe0 e) b.1
  have b7 : x1.length ≤ 7 := by rcases b with b | b <;> omega
  dsimp only at h2
  split at h2
  · rename_i d
    obtain ⟨⟨y1, y2⟩, h3, h4⟩ := Option.bind_eq_some_iff.1 h2
    cases h4
    exact ⟨⟨hc, b7, a, of_dim⟩, fin _ (((good_take.trans (good_step (isQ_in d).1 (isQ_in d).2)).trans good_of).trans (good_block h3).1)⟩
  · obtain ⟨⟨y1, y2⟩, h3, h4⟩ := Option.bind_eq_some_iff.1 h2
    cases h4
    exact ⟨⟨hc, b7, a, Int.le_refl _, by show (0 : Int) ≤ 3; decide⟩, fin _ (good_take.trans (good_block h3).1)⟩
/-- No more fields, parameters than there may be, unless there is a fault. -/
def Pg.few (p : Pg) : Prop := (∀ x ∈ p.recs, x.fields.length ≤ 8) ∧ ∀ x ∈ p.funcs, x.params.length ≤ 6
theorem prog_in {T : List Tk} {N : Int} (hN : InN T N) : ∀ (f : Nat) (p : Pg) (q : RQ) (s : Pg) (r : RQ), pProg T f p q = some (s, r) → Pg.In N p → (q.fe = 0 → p.few) → Pg.In N s ∧ (r.fe = 0 → s.few)
  | 0, _, _, _, _, h, _, _ => by simp [pProg] at h
  | f + 1, p, q, s, r, h, hp, hf => by
    unfold pProg at h
    split at h
    · rename_i c
      split at h
      · exact prog_in hN f _ _ _ _ h hp fun e => absurd e (fail_bad (by decide))
      rename_i lim
      split at h
      · rename_i d
        obtain ⟨⟨x1, x2⟩, h1, h2⟩ := Option.bind_eq_some_iff.1 h
        obtain ⟨i1, i2⟩ := record_in hN h1
        have : p.recs.length ≠ 12 := fun e => lim (.inl ⟨d, e⟩)
        have := hp.r.1
        exact prog_in hN f _ _ _ _ h2 ⟨⟨by simp; omega, mem_snoc hp.r.2 i1⟩, hp.g, hp.f⟩ fun e => ⟨mem_snoc (hf c.1).1 (i2 e), (hf c.1).2⟩
      split at h
      · rename_i d
        have : p.globals.length ≠ 8 := fun e => lim (.inr (.inl ⟨d, e⟩))
        have := hp.g.1
        exact prog_in hN f _ _ _ _ h ⟨hp.r, ⟨by simp; omega, mem_snoc hp.g.2 (param_in hN _)⟩, hp.f⟩ fun e => hf c.1
      split at h
      · rename_i d
        obtain ⟨⟨x1, x2⟩, h1, h2⟩ := Option.bind_eq_some_iff.1 h
        obtain ⟨i1, i2⟩ := func_in hN h1
        have : p.funcs.length ≠ 16 := fun e => lim (.inr (.inr ⟨d, e⟩))
        have := hp.f.1
        exact prog_in hN f _ _ _ _ h2 ⟨hp.r, hp.g, ⟨by simp; omega, mem_snoc hp.f.2 i1⟩⟩ fun e => ⟨(hf c.1).1, mem_snoc (hf c.1).2 (i2 e)⟩
      · exact prog_in hN f _ _ _ _ h hp fun e => absurd e (fail_bad (by decide))
    · cases h; exact ⟨hp, hf⟩
theorem Pg0_in {N : Int} : Pg.In N Pg0 := ⟨⟨by simp [Pg0], by simp [Pg0]⟩, ⟨by simp [Pg0], by simp [Pg0]⟩, ⟨by simp [Pg0], by simp [Pg0]⟩⟩
theorem Pg0_few : Pg0.few := ⟨by simp [Pg0], by simp [Pg0]⟩
theorem progOf_in {T : List Tk} {N : Int} (hN : InN T N) {f : Nat} {x : Pg × Int × Int} (h : progOf T f = some x) : Pg.In N x.1 ∧ x.1.few := by
  unfold progOf at h
  obtain ⟨⟨x1, x2⟩, h1, h2⟩ := Option.bind_eq_some_iff.1 h
  obtain ⟨a, b⟩ := prog_in hN _ _ _ _ _ h1 Pg0_in fun _ => Pg0_few
  simp only [Option.some.injEq] at h2
  subst h2
  split
  · rename_i e; exact ⟨a, b e⟩
  · exact ⟨Pg0_in, Pg0_few⟩
end Par
