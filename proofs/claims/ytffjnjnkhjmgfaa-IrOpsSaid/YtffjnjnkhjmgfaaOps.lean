/- Part of a proof. -/
import Derived.Test.YtffjnjnkhjmgfaaW
import Derived.KernelRfl

namespace U12
open Ax Go Code12 IrV
set_option maxRecDepth 100000
set_option maxHeartbeats 4000000

def vars0 : List (List AV) := [[.int .i64 1, .int .i64 0, .int .i64 0], [.int .i64 2, .int .i64 0, .int .i64 0], [.int .i64 3, .int .i64 0, .int .i64 0], [.int .i64 1, .int .i64 0, .int .i64 1], [.int .i64 3, .int .i64 0, .int .i64 1]]
def X0 : XD := ⟨.lst 2 [[.str [82], .lst 4 [[.str [97], .int .i64 1, .int .i64 0, .int .i64 0], [.str [98], .int .i64 3, .int .i64 0, .int .i64 0]]]], .nilSl,
  .lst 7 [[.int .i64 0, .lst 3 vars0, .bool false, .int .i64 0, .int .i64 0, .int .i64 0, .lst 6 [[.int .i64 18, .int .i64 (-1), .int .i64 0, .int .i64 0, .int .i64 0, .nilSl]]]],
  .lst 4 [[.int .i64 0, .int .i64 3, .int .i64 0, .int .i64 0], [.int .i64 0, .int .i64 1, .int .i64 0, .int .i64 1], [.int .i64 0, .int .i64 3, .int .i64 0, .int .i64 1]], 0⟩

def q5 : List Int := [0, 1, 2, 3, 4]
def q31 : List Int := (List.range 31).map Int.ofNat
theorem m5 {a : Int} (h0 : 0 ≤ a) (h1 : a ≤ 4) : a ∈ q5 := by
  have : a = 0 ∨ a = 1 ∨ a = 2 ∨ a = 3 ∨ a = 4 := by omega
  rcases this with h | h | h | h | h <;> simp [q5, h]
theorem m31 {n : Int} (h0 : 0 ≤ n) (h1 : n ≤ 30) : n ∈ q31 := List.mem_map.2 ⟨n.toNat, List.mem_range.2 (by omega), by simp; omega⟩
theorem all5 {p : Int → Bool} (h : q5.all p = true) {a : Int} (h0 : 0 ≤ a) (h1 : a ≤ 4) : p a = true := List.all_eq_true.1 h a (m5 h0 h1)
theorem all31 {p : Int → Bool} (h : q31.all p = true) {a : Int} (h0 : 0 ≤ a) (h1 : a ≤ 30) : p a = true := List.all_eq_true.1 h a (m31 h0 h1)

def fieldO (c : Int) : Int := if c = 0 then 0 else if c = 1 then 2 else -1
def itemO (b : Int) : Int := if b = 3 then 0 else if b = 4 then 2 else -1
abbrev st0 (op a b c n : Int) : Bool := stepT X0 0 ⟨op, a, b, c, n, .nilSl⟩
def is (n m : Int) : Bool := decide (n = m)

theorem o1 {a n : Int} (a0 : 0 ≤ a) (a4 : a ≤ 4) (n0 : 0 ≤ n) (n4 : n ≤ 30) : st0 1 a 0 0 n = (is a 0 || is a 1 && decide (n < 2)) := by
  have h : q5.all (fun a => q31.all fun n => st0 1 a 0 0 n == (is a 0 || is a 1 && decide (n < 2))) = true := by kernel_rfl
  exact eq_of_beq (all31 (all5 h a0 a4) n0 n4)
theorem o2 {a : Int} (a0 : 0 ≤ a) (a4 : a ≤ 4) : st0 2 a 0 0 0 = decide (1 < a) := by
  have h : q5.all (fun a => st0 2 a 0 0 0 == decide (1 < a)) = true := by kernel_rfl
  exact eq_of_beq (all5 h a0 a4)
theorem o3 {a b : Int} (a0 : 0 ≤ a) (a4 : a ≤ 4) (b0 : 0 ≤ b) (b4 : b ≤ 4) : st0 3 a b 0 0 = is a b := by
  have h : q5.all (fun a => q5.all fun b => st0 3 a b 0 0 == is a b) = true := by kernel_rfl
  exact eq_of_beq (all5 (all5 h a0 a4) b0 b4)
def w4 (a b c n : Int) : Bool := if 14 ≤ n ∧ n ≤ 18 then is (a + b + c) 0 else if n = 19 ∨ n = 20 then is a 1 && is (b + c) 0 else if n = 21 ∨ n = 22 then is a 1 && is b c else if n = 23 ∨ n = 24 then is a 1 && is b 1 && is c 1 else false
theorem o4 {a b c n : Int} (a0 : 0 ≤ a) (a4 : a ≤ 4) (b0 : 0 ≤ b) (b4 : b ≤ 4) (c0 : 0 ≤ c) (c4 : c ≤ 4) (n0 : 0 ≤ n) (n4 : n ≤ 30) : st0 4 a b c n = w4 a b c n := by
  have h : q31.all (fun n => q5.all fun a => q5.all fun b => q5.all fun c => st0 4 a b c n == w4 a b c n) = true := by kernel_rfl
  exact eq_of_beq (all5 (all5 (all5 (all31 h n0 n4) a0 a4) b0 b4) c0 c4)
theorem o5 {a b n : Int} (a0 : 0 ≤ a) (a4 : a ≤ 4) (b0 : 0 ≤ b) (b4 : b ≤ 4) (n0 : 0 ≤ n) (n4 : n ≤ 30) : st0 5 a b 0 n = (is n 12 && is (a + b) 0 || is n 13 && is a 1 && is b 1) := by
  have h : q31.all (fun n => q5.all fun a => q5.all fun b => st0 5 a b 0 n == (is n 12 && is (a + b) 0 || is n 13 && is a 1 && is b 1)) = true := by kernel_rfl
  exact eq_of_beq (all5 (all5 (all31 h n0 n4) a0 a4) b0 b4)
theorem o6 {a b c : Int} (a0 : 0 ≤ a) (a4 : a ≤ 4) (b0 : 0 ≤ b) (b4 : b ≤ 4) (c0 : 0 ≤ c) (c4 : c ≤ 4) : st0 6 a b c 0 = (is b 2 && is (fieldO c) a) := by
  have h : q5.all (fun a => q5.all fun b => q5.all fun c => st0 6 a b c 0 == (is b 2 && is (fieldO c) a)) = true := by kernel_rfl
  exact eq_of_beq (all5 (all5 (all5 h a0 a4) b0 b4) c0 c4)
theorem o7 {a b c : Int} (a0 : 0 ≤ a) (a4 : a ≤ 4) (b0 : 0 ≤ b) (b4 : b ≤ 4) (c0 : 0 ≤ c) (c4 : c ≤ 4) : st0 7 a b c 0 = (is a 2 && is (fieldO c) b) := by
  have h : q5.all (fun a => q5.all fun b => q5.all fun c => st0 7 a b c 0 == (is a 2 && is (fieldO c) b)) = true := by kernel_rfl
  exact eq_of_beq (all5 (all5 (all5 h a0 a4) b0 b4) c0 c4)
theorem o8 {a b c : Int} (a0 : 0 ≤ a) (a4 : a ≤ 4) (b0 : 0 ≤ b) (b4 : b ≤ 4) (c0 : 0 ≤ c) (c4 : c ≤ 4) : st0 8 a b c 0 = (is c 0 && is (itemO b) a) := by
  have h : q5.all (fun a => q5.all fun b => q5.all fun c => st0 8 a b c 0 == (is c 0 && is (itemO b) a)) = true := by kernel_rfl
  exact eq_of_beq (all5 (all5 (all5 h a0 a4) b0 b4) c0 c4)
theorem o9 {a b c : Int} (a0 : 0 ≤ a) (a4 : a ≤ 4) (b0 : 0 ≤ b) (b4 : b ≤ 4) (c0 : 0 ≤ c) (c4 : c ≤ 4) : st0 9 a b c 0 = (is b 0 && is (itemO a) c) := by
  have h : q5.all (fun a => q5.all fun b => q5.all fun c => st0 9 a b c 0 == (is b 0 && is (itemO a) c)) = true := by kernel_rfl
  exact eq_of_beq (all5 (all5 (all5 h a0 a4) b0 b4) c0 c4)
theorem o10 {a b : Int} (a0 : 0 ≤ a) (a4 : a ≤ 4) (b0 : 0 ≤ b) (b4 : b ≤ 4) : st0 10 a b 0 0 = (is a 0 && decide (2 < b)) := by
  have h : q5.all (fun a => q5.all fun b => st0 10 a b 0 0 == (is a 0 && decide (2 < b))) = true := by kernel_rfl
  exact eq_of_beq (all5 (all5 h a0 a4) b0 b4)
theorem o11 {a n : Int} (a0 : 0 ≤ a) (a4 : a ≤ 4) (n0 : 0 ≤ n) (n4 : n ≤ 30) : st0 11 a 0 0 n = (is a 2 && is n 0) := by
  have h : q31.all (fun n => q5.all fun a => st0 11 a 0 0 n == (is a 2 && is n 0)) = true := by kernel_rfl
  exact eq_of_beq (all5 (all31 h n0 n4) a0 a4)
theorem o12 {a b n : Int} (a0 : 0 ≤ a) (a4 : a ≤ 4) (b0 : 0 ≤ b) (b4 : b ≤ 4) (n0 : 0 ≤ n) (n4 : n ≤ 30) : st0 12 a b 0 n = (is b 0 && (is a 3 && is n 1 || is a 4 && is n 2)) := by
  have h : q31.all (fun n => q5.all fun a => q5.all fun b => st0 12 a b 0 n == (is b 0 && (is a 3 && is n 1 || is a 4 && is n 2))) = true := by kernel_rfl
  exact eq_of_beq (all5 (all5 (all31 h n0 n4) a0 a4) b0 b4)

theorem X0_right : (orcL S).call 0 0 9 [xAV X0] [] = some (.bool true, []) := by
  have h : (orc S 200).call 0 0 9 [xAV X0] [] = some (.bool true, []) := by kernel_rfl
  exact (orc_leL S 200).call _ _ _ _ _ _ h
theorem X0_ref : (orcL S).call 0 0 14 [.agg [.int .i64 1, .int .i64 0, .int .i64 1]] [] = some (.bool true, []) := by
  have h : (orc S 200).call 0 0 14 [.agg [.int .i64 1, .int .i64 0, .int .i64 1]] [] = some (.bool true, []) := by kernel_rfl
  exact (orc_leL S 200).call _ _ _ _ _ _ h
theorem X0_ok : X0.ok := ⟨by kernel_rfl, by kernel_rfl, by kernel_rfl, by kernel_rfl⟩
theorem X0_step (op a b c n : Int) : (orcL S).call 0 0 12 [xAV X0, .int .i64 0, .agg [.int .i64 op, .int .i64 a, .int .i64 b, .int .i64 c, .int .i64 n, .nilSl]] [] = some (.bool (st0 op a b c n), []) := by
  refine step_ok 0 0 0 (x := X0) (i := ⟨op, a, b, c, n, .nilSl⟩) [] X0_ok rfl rfl ?_
  have h : (dCs X0.codes).all (fun g => decide ((dTs g.vars).length < 1000000000)) = true := by kernel_rfl
  exact fun g hg => of_decide_eq_true (List.all_eq_true.1 h g hg)
end U12

namespace U12
open Ax Go Code12 IrV
set_option maxRecDepth 100000
set_option maxHeartbeats 4000000

theorem knownO : (orcL S).call 0 0 11 [] [] = some (.bool true, []) := by
  have h : (orc S 200).call 0 0 11 [] [] = some (.bool true, []) := by kernel_rfl
  exact (orc_leL S 200).call _ _ _ _ _ _ h

section
variable {op a b c n : Int} (A0 : 0 ≤ a) (A4 : a ≤ 4) (B0 : 0 ≤ b) (B4 : b ≤ 4) (C0 : 0 ≤ c) (C4 : c ≤ 4) (N0 : 0 ≤ n) (N4 : n ≤ 30)
end

theorem law_ops (op a b c n : Int) : (orcL S).call 0 0 6 [.int .i64 op, .int .i64 a, .int .i64 b, .int .i64 c, .int .i64 n] [] = some (.bool true, []) := by
  refine call_pure (sf := s6) rfl rfl (by simp) rfl (by simp) ?_
  by_cases g0 : op < 1
  · have d0 : decide (op < 1) = true := decide_eq_true g0
    simp [s6, d0]
  have d0 : decide (op < 1) = false := decide_eq_false g0
  by_cases g1 : 12 < op
  · have d1 : decide (12 < op) = true := decide_eq_true g1
    simp [s6, d1, d0]
  have d1 : decide (12 < op) = false := decide_eq_false g1
  by_cases g2 : a < 0
  · have d2 : decide (a < 0) = true := decide_eq_true g2
    simp [s6, d2, d0, d1]
  have d2 : decide (a < 0) = false := decide_eq_false g2
  by_cases g3 : 4 < a
  · have d3 : decide (4 < a) = true := decide_eq_true g3
    simp [s6, d3, d0, d1, d2]
  have d3 : decide (4 < a) = false := decide_eq_false g3
  by_cases g4 : b < 0
  · have d4 : decide (b < 0) = true := decide_eq_true g4
    simp [s6, d4, d0, d1, d2, d3]
  have d4 : decide (b < 0) = false := decide_eq_false g4
  by_cases g5 : 4 < b
  · have d5 : decide (4 < b) = true := decide_eq_true g5
    simp [s6, d5, d0, d1, d2, d3, d4]
  have d5 : decide (4 < b) = false := decide_eq_false g5
  by_cases g6 : c < 0
  · have d6 : decide (c < 0) = true := decide_eq_true g6
    simp [s6, d6, d0, d1, d2, d3, d4, d5]
  have d6 : decide (c < 0) = false := decide_eq_false g6
  by_cases g7 : 4 < c
  · have d7 : decide (4 < c) = true := decide_eq_true g7
    simp [s6, d7, d0, d1, d2, d3, d4, d5, d6]
  have d7 : decide (4 < c) = false := decide_eq_false g7
  by_cases g8 : n < 0
  · have d8 : decide (n < 0) = true := decide_eq_true g8
    simp [s6, d8, d0, d1, d2, d3, d4, d5, d6, d7]
  have d8 : decide (n < 0) = false := decide_eq_false g8
  by_cases g9 : 30 < n
  · have d9 : decide (30 < n) = true := decide_eq_true g9
    simp [s6, d9, d0, d1, d2, d3, d4, d5, d6, d7, d8]
  have d9 : decide (30 < n) = false := decide_eq_false g9
  have e9 := X0_right
  have e12 := X0_step
  have e14 := X0_ref
  simp only [xAV, X0, vars0] at e9 e12
  have hab : IntKind.i64.wrap (a + b) = a + b := by rw [wrap64] <;> omega
  have habc : IntKind.i64.wrap (a + b + c) = a + b + c := by rw [wrap64] <;> omega
  have hbc : IntKind.i64.wrap (b + c) = b + c := by rw [wrap64] <;> omega
  have A0 : 0 ≤ a := by omega
  have A4 : a ≤ 4 := by omega
  have B0 : 0 ≤ b := by omega
  have B4 : b ≤ 4 := by omega
  have C0 : 0 ≤ c := by omega
  have C4 : c ≤ 4 := by omega
  have N0 : 0 ≤ n := by omega
  have N4 : n ≤ 30 := by omega
  have hop : op = 1 ∨ op = 2 ∨ op = 3 ∨ op = 4 ∨ op = 5 ∨ op = 6 ∨ op = 7 ∨ op = 8 ∨ op = 9 ∨ op = 10 ∨ op = 11 ∨ op = 12 := by omega
  by_cases hc0 : c = 0
  · have k0 : decide (c = 0) = true := decide_eq_true (by omega)
    have k1 : decide (c = 1) = false := decide_eq_false (by omega)
    have hf : fieldO c = 0 := by simp [fieldO, hc0]
    simp [s6, W_drawB, boxOk, SOp.newBox, noFp, d0, d1, d2, d3, d4, d5, d6, d7, d8, d9, k0, k1]
    rcases hop with hop | hop | hop | hop | hop | hop | hop | hop | hop | hop | hop | hop
    · have q1 : decide (op = 1) = true := decide_eq_true hop
      have w : st0 op a 0 0 n = _ := (congrArg (fun op => st0 op a 0 0 n) hop).trans (o1 A0 A4 N0 N4)
      by_cases y1 : a = 0
      · have z1 : decide (a = 0) = true := decide_eq_true y1
        have x1 : (a = 0) = True := eq_true y1
        simp [w, e9, e12, e14, knownO, is, q1, x1]
      · have z1 : decide (a = 0) = false := decide_eq_false y1
        have x1 : (a = 0) = False := eq_false y1
        by_cases y2 : a = 1
        · have z2 : decide (a = 1) = true := decide_eq_true y2
          have x2 : (a = 1) = True := eq_true y2
          simp [w, e9, e12, e14, knownO, is, q1, x1, x2]
        · have z2 : decide (a = 1) = false := decide_eq_false y2
          have x2 : (a = 1) = False := eq_false y2
          simp [w, e9, e12, e14, knownO, is, q1, x1, x2]
    · have q2 : decide (op = 2) = true := decide_eq_true hop
      have q1 : decide (op = 1) = false := decide_eq_false (by omega)
      have w : st0 op a 0 0 0 = _ := (congrArg (fun op => st0 op a 0 0 0) hop).trans (o2 A0 A4)
      simp [w, e9, e12, e14, knownO, q1, q2]
    · have q3 : decide (op = 3) = true := decide_eq_true hop
      have q1 : decide (op = 1) = false := decide_eq_false (by omega)
      have q2 : decide (op = 2) = false := decide_eq_false (by omega)
      have w : st0 op a b 0 0 = _ := (congrArg (fun op => st0 op a b 0 0) hop).trans (o3 A0 A4 B0 B4)
      simp [w, e9, e12, e14, knownO, is, q1, q2, q3]
    · have q4 : decide (op = 4) = true := decide_eq_true hop
      have q1 : decide (op = 1) = false := decide_eq_false (by omega)
      have q2 : decide (op = 2) = false := decide_eq_false (by omega)
      have q3 : decide (op = 3) = false := decide_eq_false (by omega)
      have w : st0 op a b c n = _ := (congrArg (fun op => st0 op a b c n) hop).trans (o4 A0 A4 B0 B4 C0 C4 N0 N4)
      by_cases y3 : n ≥ 14
      · have z3 : decide (n ≥ 14) = true := decide_eq_true y3
        have x3 : (n ≥ 14) = True := eq_true y3
        by_cases y4 : n ≤ 18
        · have z4 : decide (n ≤ 18) = true := decide_eq_true y4
          have x4 : (n ≤ 18) = True := eq_true y4
          simp [w, e9, e12, e14, knownO, is, w4, hab, habc, q1, q2, q3, q4, x3, x4]
        · have z4 : decide (n ≤ 18) = false := decide_eq_false y4
          have x4 : (n ≤ 18) = False := eq_false y4
          by_cases y5 : n = 19
          · have z5 : decide (n = 19) = true := decide_eq_true y5
            have x5 : (n = 19) = True := eq_true y5
            by_cases y6 : a = 1
            · have z6 : decide (a = 1) = true := decide_eq_true y6
              have x6 : (a = 1) = True := eq_true y6
              simp [w, e9, e12, e14, knownO, is, w4, hbc, q1, q2, q3, q4, x3, x4, x5, x6]
            · have z6 : decide (a = 1) = false := decide_eq_false y6
              have x6 : (a = 1) = False := eq_false y6
              simp [w, e9, e12, e14, knownO, is, w4, q1, q2, q3, q4, x3, x4, x5, x6]
          · have z5 : decide (n = 19) = false := decide_eq_false y5
            have x5 : (n = 19) = False := eq_false y5
            by_cases y7 : n = 20
            · have z7 : decide (n = 20) = true := decide_eq_true y7
              have x7 : (n = 20) = True := eq_true y7
              by_cases y8 : a = 1
              · have z8 : decide (a = 1) = true := decide_eq_true y8
                have x8 : (a = 1) = True := eq_true y8
                simp [w, e9, e12, e14, knownO, is, w4, hbc, q1, q2, q3, q4, x3, x4, x5, x7, x8]
              · have z8 : decide (a = 1) = false := decide_eq_false y8
                have x8 : (a = 1) = False := eq_false y8
                simp [w, e9, e12, e14, knownO, is, w4, q1, q2, q3, q4, x3, x4, x5, x7, x8]
            · have z7 : decide (n = 20) = false := decide_eq_false y7
              have x7 : (n = 20) = False := eq_false y7
              by_cases y9 : n = 21
              · have z9 : decide (n = 21) = true := decide_eq_true y9
                have x9 : (n = 21) = True := eq_true y9
                by_cases y10 : a = 1
                · have z10 : decide (a = 1) = true := decide_eq_true y10
                  have x10 : (a = 1) = True := eq_true y10
                  simp [w, e9, e12, e14, knownO, is, w4, q1, q2, q3, q4, x3, x4, x5, x7, x9, x10]
                · have z10 : decide (a = 1) = false := decide_eq_false y10
                  have x10 : (a = 1) = False := eq_false y10
                  simp [w, e9, e12, e14, knownO, is, w4, q1, q2, q3, q4, x3, x4, x5, x7, x9, x10]
              · have z9 : decide (n = 21) = false := decide_eq_false y9
                have x9 : (n = 21) = False := eq_false y9
                by_cases y11 : n = 22
                · have z11 : decide (n = 22) = true := decide_eq_true y11
                  have x11 : (n = 22) = True := eq_true y11
                  by_cases y12 : a = 1
                  · have z12 : decide (a = 1) = true := decide_eq_true y12
                    have x12 : (a = 1) = True := eq_true y12
                    simp [w, e9, e12, e14, knownO, is, w4, q1, q2, q3, q4, x3, x4, x5, x7, x9, x11, x12]
                  · have z12 : decide (a = 1) = false := decide_eq_false y12
                    have x12 : (a = 1) = False := eq_false y12
                    simp [w, e9, e12, e14, knownO, is, w4, q1, q2, q3, q4, x3, x4, x5, x7, x9, x11, x12]
                · have z11 : decide (n = 22) = false := decide_eq_false y11
                  have x11 : (n = 22) = False := eq_false y11
                  by_cases y13 : n = 23
                  · have z13 : decide (n = 23) = true := decide_eq_true y13
                    have x13 : (n = 23) = True := eq_true y13
                    by_cases y14 : a = 1
                    · have z14 : decide (a = 1) = true := decide_eq_true y14
                      have x14 : (a = 1) = True := eq_true y14
                      by_cases y15 : b = 1
                      · have z15 : decide (b = 1) = true := decide_eq_true y15
                        have x15 : (b = 1) = True := eq_true y15
                        simp [w, e9, e12, e14, knownO, is, w4, q1, q2, q3, q4, x3, x4, x5, x7, x9, x11, x13, x14, x15]
                      · have z15 : decide (b = 1) = false := decide_eq_false y15
                        have x15 : (b = 1) = False := eq_false y15
                        simp [w, e9, e12, e14, knownO, is, w4, q1, q2, q3, q4, x3, x4, x5, x7, x9, x11, x13, x14, x15]
                    · have z14 : decide (a = 1) = false := decide_eq_false y14
                      have x14 : (a = 1) = False := eq_false y14
                      simp [w, e9, e12, e14, knownO, is, w4, q1, q2, q3, q4, x3, x4, x5, x7, x9, x11, x13, x14]
                  · have z13 : decide (n = 23) = false := decide_eq_false y13
                    have x13 : (n = 23) = False := eq_false y13
                    by_cases y16 : n = 24
                    · have z16 : decide (n = 24) = true := decide_eq_true y16
                      have x16 : (n = 24) = True := eq_true y16
                      by_cases y17 : a = 1
                      · have z17 : decide (a = 1) = true := decide_eq_true y17
                        have x17 : (a = 1) = True := eq_true y17
                        by_cases y18 : b = 1
                        · have z18 : decide (b = 1) = true := decide_eq_true y18
                          have x18 : (b = 1) = True := eq_true y18
                          simp [w, e9, e12, e14, knownO, is, w4, q1, q2, q3, q4, x3, x4, x5, x7, x9, x11, x13, x16, x17, x18]
                        · have z18 : decide (b = 1) = false := decide_eq_false y18
                          have x18 : (b = 1) = False := eq_false y18
                          simp [w, e9, e12, e14, knownO, is, w4, q1, q2, q3, q4, x3, x4, x5, x7, x9, x11, x13, x16, x17, x18]
                      · have z17 : decide (a = 1) = false := decide_eq_false y17
                        have x17 : (a = 1) = False := eq_false y17
                        simp [w, e9, e12, e14, knownO, is, w4, q1, q2, q3, q4, x3, x4, x5, x7, x9, x11, x13, x16, x17]
                    · have z16 : decide (n = 24) = false := decide_eq_false y16
                      have x16 : (n = 24) = False := eq_false y16
                      simp [w, e9, e12, e14, knownO, w4, q1, q2, q3, q4, x3, x4, x5, x7, x9, x11, x13, x16]
      · have z3 : decide (n ≥ 14) = false := decide_eq_false y3
        have x3 : (n ≥ 14) = False := eq_false y3
        have z19 : decide (n = 19) = false := decide_eq_false (by omega)
        have x19 : (n = 19) = False := eq_false (by omega)
        have z20 : decide (n = 20) = false := decide_eq_false (by omega)
        have x20 : (n = 20) = False := eq_false (by omega)
        have z21 : decide (n = 21) = false := decide_eq_false (by omega)
        have x21 : (n = 21) = False := eq_false (by omega)
        have z22 : decide (n = 22) = false := decide_eq_false (by omega)
        have x22 : (n = 22) = False := eq_false (by omega)
        have z23 : decide (n = 23) = false := decide_eq_false (by omega)
        have x23 : (n = 23) = False := eq_false (by omega)
        have z24 : decide (n = 24) = false := decide_eq_false (by omega)
        have x24 : (n = 24) = False := eq_false (by omega)
        simp [w, e9, e12, e14, knownO, w4, q1, q2, q3, q4, x3, x19, x20, x21, x22, x23, x24]
    · have q5 : decide (op = 5) = true := decide_eq_true hop
      have q1 : decide (op = 1) = false := decide_eq_false (by omega)
      have q2 : decide (op = 2) = false := decide_eq_false (by omega)
      have q3 : decide (op = 3) = false := decide_eq_false (by omega)
      have q4 : decide (op = 4) = false := decide_eq_false (by omega)
      have w : st0 op a b 0 n = _ := (congrArg (fun op => st0 op a b 0 n) hop).trans (o5 A0 A4 B0 B4 N0 N4)
      by_cases y25 : n = 12
      · have z25 : decide (n = 12) = true := decide_eq_true y25
        have x25 : (n = 12) = True := eq_true y25
        by_cases y26 : a + b = 0
        · have z26 : decide (a + b = 0) = true := decide_eq_true y26
          have x26 : (a + b = 0) = True := eq_true y26
          simp [w, e9, e12, e14, knownO, is, hab, q1, q2, q3, q4, q5, x25, x26]
        · have z26 : decide (a + b = 0) = false := decide_eq_false y26
          have x26 : (a + b = 0) = False := eq_false y26
          have z27 : decide (n = 13) = false := decide_eq_false (by omega)
          have x27 : (n = 13) = False := eq_false (by omega)
          simp [w, e9, e12, e14, knownO, is, hab, q1, q2, q3, q4, q5, x25, x26, x27]
      · have z25 : decide (n = 12) = false := decide_eq_false y25
        have x25 : (n = 12) = False := eq_false y25
        by_cases y28 : n = 13
        · have z28 : decide (n = 13) = true := decide_eq_true y28
          have x28 : (n = 13) = True := eq_true y28
          by_cases y29 : a = 1
          · have z29 : decide (a = 1) = true := decide_eq_true y29
            have x29 : (a = 1) = True := eq_true y29
            simp [w, e9, e12, e14, knownO, is, q1, q2, q3, q4, q5, x25, x28, x29]
          · have z29 : decide (a = 1) = false := decide_eq_false y29
            have x29 : (a = 1) = False := eq_false y29
            simp [w, e9, e12, e14, knownO, is, q1, q2, q3, q4, q5, x25, x28, x29]
        · have z28 : decide (n = 13) = false := decide_eq_false y28
          have x28 : (n = 13) = False := eq_false y28
          simp [w, e9, e12, e14, knownO, is, q1, q2, q3, q4, q5, x25, x28]
    · have q6 : decide (op = 6) = true := decide_eq_true hop
      have q1 : decide (op = 1) = false := decide_eq_false (by omega)
      have q2 : decide (op = 2) = false := decide_eq_false (by omega)
      have q3 : decide (op = 3) = false := decide_eq_false (by omega)
      have q4 : decide (op = 4) = false := decide_eq_false (by omega)
      have q5 : decide (op = 5) = false := decide_eq_false (by omega)
      have w : st0 op a b c 0 = _ := (congrArg (fun op => st0 op a b c 0) hop).trans (o6 A0 A4 B0 B4 C0 C4)
      by_cases y30 : b = 2
      · have z30 : decide (b = 2) = true := decide_eq_true y30
        have x30 : (b = 2) = True := eq_true y30
        simp [w, e9, e12, e14, knownO, is, hf, q1, q2, q3, q4, q5, q6, x30]
      · have z30 : decide (b = 2) = false := decide_eq_false y30
        have x30 : (b = 2) = False := eq_false y30
        simp [w, e9, e12, e14, knownO, is, hf, q1, q2, q3, q4, q5, q6, x30]
    · have q7 : decide (op = 7) = true := decide_eq_true hop
      have q1 : decide (op = 1) = false := decide_eq_false (by omega)
      have q2 : decide (op = 2) = false := decide_eq_false (by omega)
      have q3 : decide (op = 3) = false := decide_eq_false (by omega)
      have q4 : decide (op = 4) = false := decide_eq_false (by omega)
      have q5 : decide (op = 5) = false := decide_eq_false (by omega)
      have q6 : decide (op = 6) = false := decide_eq_false (by omega)
      have w : st0 op a b c 0 = _ := (congrArg (fun op => st0 op a b c 0) hop).trans (o7 A0 A4 B0 B4 C0 C4)
      by_cases y31 : a = 2
      · have z31 : decide (a = 2) = true := decide_eq_true y31
        have x31 : (a = 2) = True := eq_true y31
        simp [w, e9, e12, e14, knownO, is, hf, q1, q2, q3, q4, q5, q6, q7, x31]
      · have z31 : decide (a = 2) = false := decide_eq_false y31
        have x31 : (a = 2) = False := eq_false y31
        simp [w, e9, e12, e14, knownO, is, hf, q1, q2, q3, q4, q5, q6, q7, x31]
    · have q8 : decide (op = 8) = true := decide_eq_true hop
      have q1 : decide (op = 1) = false := decide_eq_false (by omega)
      have q2 : decide (op = 2) = false := decide_eq_false (by omega)
      have q3 : decide (op = 3) = false := decide_eq_false (by omega)
      have q4 : decide (op = 4) = false := decide_eq_false (by omega)
      have q5 : decide (op = 5) = false := decide_eq_false (by omega)
      have q6 : decide (op = 6) = false := decide_eq_false (by omega)
      have q7 : decide (op = 7) = false := decide_eq_false (by omega)
      have w : st0 op a b c 0 = _ := (congrArg (fun op => st0 op a b c 0) hop).trans (o8 A0 A4 B0 B4 C0 C4)
      by_cases y32 : c = 0
      · have z32 : decide (c = 0) = true := decide_eq_true y32
        have x32 : (c = 0) = True := eq_true y32
        have h5 : b = 0 ∨ b = 1 ∨ b = 2 ∨ b = 3 ∨ b = 4 := by omega
        rcases h5 with rfl | rfl | rfl | rfl | rfl <;> simp [w, e9, e12, e14, knownO, is, itemO, q1, q2, q3, q4, q5, q6, q7, q8, x32]
      · have z32 : decide (c = 0) = false := decide_eq_false y32
        have x32 : (c = 0) = False := eq_false y32
        simp [w, e9, e12, e14, knownO, is, itemO, q1, q2, q3, q4, q5, q6, q7, q8, x32]
    · have q9 : decide (op = 9) = true := decide_eq_true hop
      have q1 : decide (op = 1) = false := decide_eq_false (by omega)
      have q2 : decide (op = 2) = false := decide_eq_false (by omega)
      have q3 : decide (op = 3) = false := decide_eq_false (by omega)
      have q4 : decide (op = 4) = false := decide_eq_false (by omega)
      have q5 : decide (op = 5) = false := decide_eq_false (by omega)
      have q6 : decide (op = 6) = false := decide_eq_false (by omega)
      have q7 : decide (op = 7) = false := decide_eq_false (by omega)
      have q8 : decide (op = 8) = false := decide_eq_false (by omega)
      have w : st0 op a b c 0 = _ := (congrArg (fun op => st0 op a b c 0) hop).trans (o9 A0 A4 B0 B4 C0 C4)
      by_cases y33 : b = 0
      · have z33 : decide (b = 0) = true := decide_eq_true y33
        have x33 : (b = 0) = True := eq_true y33
        have h5 : a = 0 ∨ a = 1 ∨ a = 2 ∨ a = 3 ∨ a = 4 := by omega
        rcases h5 with rfl | rfl | rfl | rfl | rfl <;> simp [w, e9, e12, e14, knownO, is, itemO, q1, q2, q3, q4, q5, q6, q7, q8, q9, x33]
      · have z33 : decide (b = 0) = false := decide_eq_false y33
        have x33 : (b = 0) = False := eq_false y33
        simp [w, e9, e12, e14, knownO, is, itemO, q1, q2, q3, q4, q5, q6, q7, q8, q9, x33]
    · have q10 : decide (op = 10) = true := decide_eq_true hop
      have q1 : decide (op = 1) = false := decide_eq_false (by omega)
      have q2 : decide (op = 2) = false := decide_eq_false (by omega)
      have q3 : decide (op = 3) = false := decide_eq_false (by omega)
      have q4 : decide (op = 4) = false := decide_eq_false (by omega)
      have q5 : decide (op = 5) = false := decide_eq_false (by omega)
      have q6 : decide (op = 6) = false := decide_eq_false (by omega)
      have q7 : decide (op = 7) = false := decide_eq_false (by omega)
      have q8 : decide (op = 8) = false := decide_eq_false (by omega)
      have q9 : decide (op = 9) = false := decide_eq_false (by omega)
      have w : st0 op a b 0 0 = _ := (congrArg (fun op => st0 op a b 0 0) hop).trans (o10 A0 A4 B0 B4)
      by_cases y34 : a = 0
      · have z34 : decide (a = 0) = true := decide_eq_true y34
        have x34 : (a = 0) = True := eq_true y34
        simp [w, e9, e12, e14, knownO, is, q1, q2, q3, q4, q5, q6, q7, q8, q9, q10, x34]
      · have z34 : decide (a = 0) = false := decide_eq_false y34
        have x34 : (a = 0) = False := eq_false y34
        simp [w, e9, e12, e14, knownO, is, q1, q2, q3, q4, q5, q6, q7, q8, q9, q10, x34]
    · have q11 : decide (op = 11) = true := decide_eq_true hop
      have q1 : decide (op = 1) = false := decide_eq_false (by omega)
      have q2 : decide (op = 2) = false := decide_eq_false (by omega)
      have q3 : decide (op = 3) = false := decide_eq_false (by omega)
      have q4 : decide (op = 4) = false := decide_eq_false (by omega)
      have q5 : decide (op = 5) = false := decide_eq_false (by omega)
      have q6 : decide (op = 6) = false := decide_eq_false (by omega)
      have q7 : decide (op = 7) = false := decide_eq_false (by omega)
      have q8 : decide (op = 8) = false := decide_eq_false (by omega)
      have q9 : decide (op = 9) = false := decide_eq_false (by omega)
      have q10 : decide (op = 10) = false := decide_eq_false (by omega)
      have w : st0 op a 0 0 n = _ := (congrArg (fun op => st0 op a 0 0 n) hop).trans (o11 A0 A4 N0 N4)
      by_cases y35 : a = 2
      · have z35 : decide (a = 2) = true := decide_eq_true y35
        have x35 : (a = 2) = True := eq_true y35
        simp [w, e9, e12, e14, knownO, is, q1, q2, q3, q4, q5, q6, q7, q8, q9, q10, q11, x35]
      · have z35 : decide (a = 2) = false := decide_eq_false y35
        have x35 : (a = 2) = False := eq_false y35
        simp [w, e9, e12, e14, knownO, is, q1, q2, q3, q4, q5, q6, q7, q8, q9, q10, q11, x35]
    · have q12 : decide (op = 12) = true := decide_eq_true hop
      have q1 : decide (op = 1) = false := decide_eq_false (by omega)
      have q2 : decide (op = 2) = false := decide_eq_false (by omega)
      have q3 : decide (op = 3) = false := decide_eq_false (by omega)
      have q4 : decide (op = 4) = false := decide_eq_false (by omega)
      have q5 : decide (op = 5) = false := decide_eq_false (by omega)
      have q6 : decide (op = 6) = false := decide_eq_false (by omega)
      have q7 : decide (op = 7) = false := decide_eq_false (by omega)
      have q8 : decide (op = 8) = false := decide_eq_false (by omega)
      have q9 : decide (op = 9) = false := decide_eq_false (by omega)
      have q10 : decide (op = 10) = false := decide_eq_false (by omega)
      have q11 : decide (op = 11) = false := decide_eq_false (by omega)
      have w : st0 op a b 0 n = _ := (congrArg (fun op => st0 op a b 0 n) hop).trans (o12 A0 A4 B0 B4 N0 N4)
      by_cases y36 : b = 0
      · have z36 : decide (b = 0) = true := decide_eq_true y36
        have x36 : (b = 0) = True := eq_true y36
        by_cases y37 : a = 3
        · have z37 : decide (a = 3) = true := decide_eq_true y37
          have x37 : (a = 3) = True := eq_true y37
          by_cases y38 : n = 1
          · have z38 : decide (n = 1) = true := decide_eq_true y38
            have x38 : (n = 1) = True := eq_true y38
            simp [w, e9, e12, e14, knownO, is, q1, q2, q3, q4, q5, q6, q7, q8, q9, q10, q11, q12, x36, x37, x38]
          · have z38 : decide (n = 1) = false := decide_eq_false y38
            have x38 : (n = 1) = False := eq_false y38
            have z39 : decide (a = 4) = false := decide_eq_false (by omega)
            have x39 : (a = 4) = False := eq_false (by omega)
            simp [w, e9, e12, e14, knownO, is, q1, q2, q3, q4, q5, q6, q7, q8, q9, q10, q11, q12, x36, x37, x38, x39]
        · have z37 : decide (a = 3) = false := decide_eq_false y37
          have x37 : (a = 3) = False := eq_false y37
          by_cases y40 : a = 4
          · have z40 : decide (a = 4) = true := decide_eq_true y40
            have x40 : (a = 4) = True := eq_true y40
            simp [w, e9, e12, e14, knownO, is, q1, q2, q3, q4, q5, q6, q7, q8, q9, q10, q11, q12, x36, x37, x40]
          · have z40 : decide (a = 4) = false := decide_eq_false y40
            have x40 : (a = 4) = False := eq_false y40
            simp [w, e9, e12, e14, knownO, is, q1, q2, q3, q4, q5, q6, q7, q8, q9, q10, q11, q12, x36, x37, x40]
      · have z36 : decide (b = 0) = false := decide_eq_false y36
        have x36 : (b = 0) = False := eq_false y36
        simp [w, e9, e12, e14, knownO, is, q1, q2, q3, q4, q5, q6, q7, q8, q9, q10, q11, q12, x36]
  by_cases hc1 : c = 1
  · have k0 : decide (c = 0) = false := decide_eq_false (by omega)
    have k1 : decide (c = 1) = true := decide_eq_true (by omega)
    have hf : fieldO c = 2 := by simp [fieldO, hc1]
    simp [s6, W_drawB, boxOk, SOp.newBox, noFp, d0, d1, d2, d3, d4, d5, d6, d7, d8, d9, k0, k1]
    rcases hop with hop | hop | hop | hop | hop | hop | hop | hop | hop | hop | hop | hop
    · have q1 : decide (op = 1) = true := decide_eq_true hop
      have w : st0 op a 0 0 n = _ := (congrArg (fun op => st0 op a 0 0 n) hop).trans (o1 A0 A4 N0 N4)
      by_cases y41 : a = 0
      · have z41 : decide (a = 0) = true := decide_eq_true y41
        have x41 : (a = 0) = True := eq_true y41
        simp [w, e9, e12, e14, knownO, is, q1, x41]
      · have z41 : decide (a = 0) = false := decide_eq_false y41
        have x41 : (a = 0) = False := eq_false y41
        by_cases y42 : a = 1
        · have z42 : decide (a = 1) = true := decide_eq_true y42
          have x42 : (a = 1) = True := eq_true y42
          simp [w, e9, e12, e14, knownO, is, q1, x41, x42]
        · have z42 : decide (a = 1) = false := decide_eq_false y42
          have x42 : (a = 1) = False := eq_false y42
          simp [w, e9, e12, e14, knownO, is, q1, x41, x42]
    · have q2 : decide (op = 2) = true := decide_eq_true hop
      have q1 : decide (op = 1) = false := decide_eq_false (by omega)
      have w : st0 op a 0 0 0 = _ := (congrArg (fun op => st0 op a 0 0 0) hop).trans (o2 A0 A4)
      simp [w, e9, e12, e14, knownO, q1, q2]
    · have q3 : decide (op = 3) = true := decide_eq_true hop
      have q1 : decide (op = 1) = false := decide_eq_false (by omega)
      have q2 : decide (op = 2) = false := decide_eq_false (by omega)
      have w : st0 op a b 0 0 = _ := (congrArg (fun op => st0 op a b 0 0) hop).trans (o3 A0 A4 B0 B4)
      simp [w, e9, e12, e14, knownO, is, q1, q2, q3]
    · have q4 : decide (op = 4) = true := decide_eq_true hop
      have q1 : decide (op = 1) = false := decide_eq_false (by omega)
      have q2 : decide (op = 2) = false := decide_eq_false (by omega)
      have q3 : decide (op = 3) = false := decide_eq_false (by omega)
      have w : st0 op a b c n = _ := (congrArg (fun op => st0 op a b c n) hop).trans (o4 A0 A4 B0 B4 C0 C4 N0 N4)
      by_cases y43 : n ≥ 14
      · have z43 : decide (n ≥ 14) = true := decide_eq_true y43
        have x43 : (n ≥ 14) = True := eq_true y43
        by_cases y44 : n ≤ 18
        · have z44 : decide (n ≤ 18) = true := decide_eq_true y44
          have x44 : (n ≤ 18) = True := eq_true y44
          simp [w, e9, e12, e14, knownO, is, w4, hab, habc, q1, q2, q3, q4, x43, x44]
        · have z44 : decide (n ≤ 18) = false := decide_eq_false y44
          have x44 : (n ≤ 18) = False := eq_false y44
          by_cases y45 : n = 19
          · have z45 : decide (n = 19) = true := decide_eq_true y45
            have x45 : (n = 19) = True := eq_true y45
            by_cases y46 : a = 1
            · have z46 : decide (a = 1) = true := decide_eq_true y46
              have x46 : (a = 1) = True := eq_true y46
              simp [w, e9, e12, e14, knownO, is, w4, hbc, q1, q2, q3, q4, x43, x44, x45, x46]
            · have z46 : decide (a = 1) = false := decide_eq_false y46
              have x46 : (a = 1) = False := eq_false y46
              simp [w, e9, e12, e14, knownO, is, w4, q1, q2, q3, q4, x43, x44, x45, x46]
          · have z45 : decide (n = 19) = false := decide_eq_false y45
            have x45 : (n = 19) = False := eq_false y45
            by_cases y47 : n = 20
            · have z47 : decide (n = 20) = true := decide_eq_true y47
              have x47 : (n = 20) = True := eq_true y47
              by_cases y48 : a = 1
              · have z48 : decide (a = 1) = true := decide_eq_true y48
                have x48 : (a = 1) = True := eq_true y48
                simp [w, e9, e12, e14, knownO, is, w4, hbc, q1, q2, q3, q4, x43, x44, x45, x47, x48]
              · have z48 : decide (a = 1) = false := decide_eq_false y48
                have x48 : (a = 1) = False := eq_false y48
                simp [w, e9, e12, e14, knownO, is, w4, q1, q2, q3, q4, x43, x44, x45, x47, x48]
            · have z47 : decide (n = 20) = false := decide_eq_false y47
              have x47 : (n = 20) = False := eq_false y47
              by_cases y49 : n = 21
              · have z49 : decide (n = 21) = true := decide_eq_true y49
                have x49 : (n = 21) = True := eq_true y49
                by_cases y50 : a = 1
                · have z50 : decide (a = 1) = true := decide_eq_true y50
                  have x50 : (a = 1) = True := eq_true y50
                  simp [w, e9, e12, e14, knownO, is, w4, q1, q2, q3, q4, x43, x44, x45, x47, x49, x50]
                · have z50 : decide (a = 1) = false := decide_eq_false y50
                  have x50 : (a = 1) = False := eq_false y50
                  simp [w, e9, e12, e14, knownO, is, w4, q1, q2, q3, q4, x43, x44, x45, x47, x49, x50]
              · have z49 : decide (n = 21) = false := decide_eq_false y49
                have x49 : (n = 21) = False := eq_false y49
                by_cases y51 : n = 22
                · have z51 : decide (n = 22) = true := decide_eq_true y51
                  have x51 : (n = 22) = True := eq_true y51
                  by_cases y52 : a = 1
                  · have z52 : decide (a = 1) = true := decide_eq_true y52
                    have x52 : (a = 1) = True := eq_true y52
                    simp [w, e9, e12, e14, knownO, is, w4, q1, q2, q3, q4, x43, x44, x45, x47, x49, x51, x52]
                  · have z52 : decide (a = 1) = false := decide_eq_false y52
                    have x52 : (a = 1) = False := eq_false y52
                    simp [w, e9, e12, e14, knownO, is, w4, q1, q2, q3, q4, x43, x44, x45, x47, x49, x51, x52]
                · have z51 : decide (n = 22) = false := decide_eq_false y51
                  have x51 : (n = 22) = False := eq_false y51
                  by_cases y53 : n = 23
                  · have z53 : decide (n = 23) = true := decide_eq_true y53
                    have x53 : (n = 23) = True := eq_true y53
                    by_cases y54 : a = 1
                    · have z54 : decide (a = 1) = true := decide_eq_true y54
                      have x54 : (a = 1) = True := eq_true y54
                      by_cases y55 : b = 1
                      · have z55 : decide (b = 1) = true := decide_eq_true y55
                        have x55 : (b = 1) = True := eq_true y55
                        simp [w, e9, e12, e14, knownO, is, w4, q1, q2, q3, q4, x43, x44, x45, x47, x49, x51, x53, x54, x55]
                      · have z55 : decide (b = 1) = false := decide_eq_false y55
                        have x55 : (b = 1) = False := eq_false y55
                        simp [w, e9, e12, e14, knownO, is, w4, q1, q2, q3, q4, x43, x44, x45, x47, x49, x51, x53, x54, x55]
                    · have z54 : decide (a = 1) = false := decide_eq_false y54
                      have x54 : (a = 1) = False := eq_false y54
                      simp [w, e9, e12, e14, knownO, is, w4, q1, q2, q3, q4, x43, x44, x45, x47, x49, x51, x53, x54]
                  · have z53 : decide (n = 23) = false := decide_eq_false y53
                    have x53 : (n = 23) = False := eq_false y53
                    by_cases y56 : n = 24
                    · have z56 : decide (n = 24) = true := decide_eq_true y56
                      have x56 : (n = 24) = True := eq_true y56
                      by_cases y57 : a = 1
                      · have z57 : decide (a = 1) = true := decide_eq_true y57
                        have x57 : (a = 1) = True := eq_true y57
                        by_cases y58 : b = 1
                        · have z58 : decide (b = 1) = true := decide_eq_true y58
                          have x58 : (b = 1) = True := eq_true y58
                          simp [w, e9, e12, e14, knownO, is, w4, q1, q2, q3, q4, x43, x44, x45, x47, x49, x51, x53, x56, x57, x58]
                        · have z58 : decide (b = 1) = false := decide_eq_false y58
                          have x58 : (b = 1) = False := eq_false y58
                          simp [w, e9, e12, e14, knownO, is, w4, q1, q2, q3, q4, x43, x44, x45, x47, x49, x51, x53, x56, x57, x58]
                      · have z57 : decide (a = 1) = false := decide_eq_false y57
                        have x57 : (a = 1) = False := eq_false y57
                        simp [w, e9, e12, e14, knownO, is, w4, q1, q2, q3, q4, x43, x44, x45, x47, x49, x51, x53, x56, x57]
                    · have z56 : decide (n = 24) = false := decide_eq_false y56
                      have x56 : (n = 24) = False := eq_false y56
                      simp [w, e9, e12, e14, knownO, w4, q1, q2, q3, q4, x43, x44, x45, x47, x49, x51, x53, x56]
      · have z43 : decide (n ≥ 14) = false := decide_eq_false y43
        have x43 : (n ≥ 14) = False := eq_false y43
        have z59 : decide (n = 19) = false := decide_eq_false (by omega)
        have x59 : (n = 19) = False := eq_false (by omega)
        have z60 : decide (n = 20) = false := decide_eq_false (by omega)
        have x60 : (n = 20) = False := eq_false (by omega)
        have z61 : decide (n = 21) = false := decide_eq_false (by omega)
        have x61 : (n = 21) = False := eq_false (by omega)
        have z62 : decide (n = 22) = false := decide_eq_false (by omega)
        have x62 : (n = 22) = False := eq_false (by omega)
        have z63 : decide (n = 23) = false := decide_eq_false (by omega)
        have x63 : (n = 23) = False := eq_false (by omega)
        have z64 : decide (n = 24) = false := decide_eq_false (by omega)
        have x64 : (n = 24) = False := eq_false (by omega)
        simp [w, e9, e12, e14, knownO, w4, q1, q2, q3, q4, x43, x59, x60, x61, x62, x63, x64]
    · have q5 : decide (op = 5) = true := decide_eq_true hop
      have q1 : decide (op = 1) = false := decide_eq_false (by omega)
      have q2 : decide (op = 2) = false := decide_eq_false (by omega)
      have q3 : decide (op = 3) = false := decide_eq_false (by omega)
      have q4 : decide (op = 4) = false := decide_eq_false (by omega)
      have w : st0 op a b 0 n = _ := (congrArg (fun op => st0 op a b 0 n) hop).trans (o5 A0 A4 B0 B4 N0 N4)
      by_cases y65 : n = 12
      · have z65 : decide (n = 12) = true := decide_eq_true y65
        have x65 : (n = 12) = True := eq_true y65
        by_cases y66 : a + b = 0
        · have z66 : decide (a + b = 0) = true := decide_eq_true y66
          have x66 : (a + b = 0) = True := eq_true y66
          simp [w, e9, e12, e14, knownO, is, hab, q1, q2, q3, q4, q5, x65, x66]
        · have z66 : decide (a + b = 0) = false := decide_eq_false y66
          have x66 : (a + b = 0) = False := eq_false y66
          have z67 : decide (n = 13) = false := decide_eq_false (by omega)
          have x67 : (n = 13) = False := eq_false (by omega)
          simp [w, e9, e12, e14, knownO, is, hab, q1, q2, q3, q4, q5, x65, x66, x67]
      · have z65 : decide (n = 12) = false := decide_eq_false y65
        have x65 : (n = 12) = False := eq_false y65
        by_cases y68 : n = 13
        · have z68 : decide (n = 13) = true := decide_eq_true y68
          have x68 : (n = 13) = True := eq_true y68
          by_cases y69 : a = 1
          · have z69 : decide (a = 1) = true := decide_eq_true y69
            have x69 : (a = 1) = True := eq_true y69
            simp [w, e9, e12, e14, knownO, is, q1, q2, q3, q4, q5, x65, x68, x69]
          · have z69 : decide (a = 1) = false := decide_eq_false y69
            have x69 : (a = 1) = False := eq_false y69
            simp [w, e9, e12, e14, knownO, is, q1, q2, q3, q4, q5, x65, x68, x69]
        · have z68 : decide (n = 13) = false := decide_eq_false y68
          have x68 : (n = 13) = False := eq_false y68
          simp [w, e9, e12, e14, knownO, is, q1, q2, q3, q4, q5, x65, x68]
    · have q6 : decide (op = 6) = true := decide_eq_true hop
      have q1 : decide (op = 1) = false := decide_eq_false (by omega)
      have q2 : decide (op = 2) = false := decide_eq_false (by omega)
      have q3 : decide (op = 3) = false := decide_eq_false (by omega)
      have q4 : decide (op = 4) = false := decide_eq_false (by omega)
      have q5 : decide (op = 5) = false := decide_eq_false (by omega)
      have w : st0 op a b c 0 = _ := (congrArg (fun op => st0 op a b c 0) hop).trans (o6 A0 A4 B0 B4 C0 C4)
      by_cases y70 : b = 2
      · have z70 : decide (b = 2) = true := decide_eq_true y70
        have x70 : (b = 2) = True := eq_true y70
        simp [w, e9, e12, e14, knownO, is, hf, q1, q2, q3, q4, q5, q6, x70]
      · have z70 : decide (b = 2) = false := decide_eq_false y70
        have x70 : (b = 2) = False := eq_false y70
        simp [w, e9, e12, e14, knownO, is, hf, q1, q2, q3, q4, q5, q6, x70]
    · have q7 : decide (op = 7) = true := decide_eq_true hop
      have q1 : decide (op = 1) = false := decide_eq_false (by omega)
      have q2 : decide (op = 2) = false := decide_eq_false (by omega)
      have q3 : decide (op = 3) = false := decide_eq_false (by omega)
      have q4 : decide (op = 4) = false := decide_eq_false (by omega)
      have q5 : decide (op = 5) = false := decide_eq_false (by omega)
      have q6 : decide (op = 6) = false := decide_eq_false (by omega)
      have w : st0 op a b c 0 = _ := (congrArg (fun op => st0 op a b c 0) hop).trans (o7 A0 A4 B0 B4 C0 C4)
      by_cases y71 : a = 2
      · have z71 : decide (a = 2) = true := decide_eq_true y71
        have x71 : (a = 2) = True := eq_true y71
        simp [w, e9, e12, e14, knownO, is, hf, q1, q2, q3, q4, q5, q6, q7, x71]
      · have z71 : decide (a = 2) = false := decide_eq_false y71
        have x71 : (a = 2) = False := eq_false y71
        simp [w, e9, e12, e14, knownO, is, hf, q1, q2, q3, q4, q5, q6, q7, x71]
    · have q8 : decide (op = 8) = true := decide_eq_true hop
      have q1 : decide (op = 1) = false := decide_eq_false (by omega)
      have q2 : decide (op = 2) = false := decide_eq_false (by omega)
      have q3 : decide (op = 3) = false := decide_eq_false (by omega)
      have q4 : decide (op = 4) = false := decide_eq_false (by omega)
      have q5 : decide (op = 5) = false := decide_eq_false (by omega)
      have q6 : decide (op = 6) = false := decide_eq_false (by omega)
      have q7 : decide (op = 7) = false := decide_eq_false (by omega)
      have w : st0 op a b c 0 = _ := (congrArg (fun op => st0 op a b c 0) hop).trans (o8 A0 A4 B0 B4 C0 C4)
      by_cases y72 : c = 0
      · have z72 : decide (c = 0) = true := decide_eq_true y72
        have x72 : (c = 0) = True := eq_true y72
        have h5 : b = 0 ∨ b = 1 ∨ b = 2 ∨ b = 3 ∨ b = 4 := by omega
        rcases h5 with rfl | rfl | rfl | rfl | rfl <;> simp [w, e9, e12, e14, knownO, is, itemO, q1, q2, q3, q4, q5, q6, q7, q8, x72]
      · have z72 : decide (c = 0) = false := decide_eq_false y72
        have x72 : (c = 0) = False := eq_false y72
        simp [w, e9, e12, e14, knownO, is, itemO, q1, q2, q3, q4, q5, q6, q7, q8, x72]
    · have q9 : decide (op = 9) = true := decide_eq_true hop
      have q1 : decide (op = 1) = false := decide_eq_false (by omega)
      have q2 : decide (op = 2) = false := decide_eq_false (by omega)
      have q3 : decide (op = 3) = false := decide_eq_false (by omega)
      have q4 : decide (op = 4) = false := decide_eq_false (by omega)
      have q5 : decide (op = 5) = false := decide_eq_false (by omega)
      have q6 : decide (op = 6) = false := decide_eq_false (by omega)
      have q7 : decide (op = 7) = false := decide_eq_false (by omega)
      have q8 : decide (op = 8) = false := decide_eq_false (by omega)
      have w : st0 op a b c 0 = _ := (congrArg (fun op => st0 op a b c 0) hop).trans (o9 A0 A4 B0 B4 C0 C4)
      by_cases y73 : b = 0
      · have z73 : decide (b = 0) = true := decide_eq_true y73
        have x73 : (b = 0) = True := eq_true y73
        have h5 : a = 0 ∨ a = 1 ∨ a = 2 ∨ a = 3 ∨ a = 4 := by omega
        rcases h5 with rfl | rfl | rfl | rfl | rfl <;> simp [w, e9, e12, e14, knownO, is, itemO, q1, q2, q3, q4, q5, q6, q7, q8, q9, x73]
      · have z73 : decide (b = 0) = false := decide_eq_false y73
        have x73 : (b = 0) = False := eq_false y73
        simp [w, e9, e12, e14, knownO, is, itemO, q1, q2, q3, q4, q5, q6, q7, q8, q9, x73]
    · have q10 : decide (op = 10) = true := decide_eq_true hop
      have q1 : decide (op = 1) = false := decide_eq_false (by omega)
      have q2 : decide (op = 2) = false := decide_eq_false (by omega)
      have q3 : decide (op = 3) = false := decide_eq_false (by omega)
      have q4 : decide (op = 4) = false := decide_eq_false (by omega)
      have q5 : decide (op = 5) = false := decide_eq_false (by omega)
      have q6 : decide (op = 6) = false := decide_eq_false (by omega)
      have q7 : decide (op = 7) = false := decide_eq_false (by omega)
      have q8 : decide (op = 8) = false := decide_eq_false (by omega)
      have q9 : decide (op = 9) = false := decide_eq_false (by omega)
      have w : st0 op a b 0 0 = _ := (congrArg (fun op => st0 op a b 0 0) hop).trans (o10 A0 A4 B0 B4)
      by_cases y74 : a = 0
      · have z74 : decide (a = 0) = true := decide_eq_true y74
        have x74 : (a = 0) = True := eq_true y74
        simp [w, e9, e12, e14, knownO, is, q1, q2, q3, q4, q5, q6, q7, q8, q9, q10, x74]
      · have z74 : decide (a = 0) = false := decide_eq_false y74
        have x74 : (a = 0) = False := eq_false y74
        simp [w, e9, e12, e14, knownO, is, q1, q2, q3, q4, q5, q6, q7, q8, q9, q10, x74]
    · have q11 : decide (op = 11) = true := decide_eq_true hop
      have q1 : decide (op = 1) = false := decide_eq_false (by omega)
      have q2 : decide (op = 2) = false := decide_eq_false (by omega)
      have q3 : decide (op = 3) = false := decide_eq_false (by omega)
      have q4 : decide (op = 4) = false := decide_eq_false (by omega)
      have q5 : decide (op = 5) = false := decide_eq_false (by omega)
      have q6 : decide (op = 6) = false := decide_eq_false (by omega)
      have q7 : decide (op = 7) = false := decide_eq_false (by omega)
      have q8 : decide (op = 8) = false := decide_eq_false (by omega)
      have q9 : decide (op = 9) = false := decide_eq_false (by omega)
      have q10 : decide (op = 10) = false := decide_eq_false (by omega)
      have w : st0 op a 0 0 n = _ := (congrArg (fun op => st0 op a 0 0 n) hop).trans (o11 A0 A4 N0 N4)
      by_cases y75 : a = 2
      · have z75 : decide (a = 2) = true := decide_eq_true y75
        have x75 : (a = 2) = True := eq_true y75
        simp [w, e9, e12, e14, knownO, is, q1, q2, q3, q4, q5, q6, q7, q8, q9, q10, q11, x75]
      · have z75 : decide (a = 2) = false := decide_eq_false y75
        have x75 : (a = 2) = False := eq_false y75
        simp [w, e9, e12, e14, knownO, is, q1, q2, q3, q4, q5, q6, q7, q8, q9, q10, q11, x75]
    · have q12 : decide (op = 12) = true := decide_eq_true hop
      have q1 : decide (op = 1) = false := decide_eq_false (by omega)
      have q2 : decide (op = 2) = false := decide_eq_false (by omega)
      have q3 : decide (op = 3) = false := decide_eq_false (by omega)
      have q4 : decide (op = 4) = false := decide_eq_false (by omega)
      have q5 : decide (op = 5) = false := decide_eq_false (by omega)
      have q6 : decide (op = 6) = false := decide_eq_false (by omega)
      have q7 : decide (op = 7) = false := decide_eq_false (by omega)
      have q8 : decide (op = 8) = false := decide_eq_false (by omega)
      have q9 : decide (op = 9) = false := decide_eq_false (by omega)
      have q10 : decide (op = 10) = false := decide_eq_false (by omega)
      have q11 : decide (op = 11) = false := decide_eq_false (by omega)
      have w : st0 op a b 0 n = _ := (congrArg (fun op => st0 op a b 0 n) hop).trans (o12 A0 A4 B0 B4 N0 N4)
      by_cases y76 : b = 0
      · have z76 : decide (b = 0) = true := decide_eq_true y76
        have x76 : (b = 0) = True := eq_true y76
        by_cases y77 : a = 3
        · have z77 : decide (a = 3) = true := decide_eq_true y77
          have x77 : (a = 3) = True := eq_true y77
          by_cases y78 : n = 1
          · have z78 : decide (n = 1) = true := decide_eq_true y78
            have x78 : (n = 1) = True := eq_true y78
            simp [w, e9, e12, e14, knownO, is, q1, q2, q3, q4, q5, q6, q7, q8, q9, q10, q11, q12, x76, x77, x78]
          · have z78 : decide (n = 1) = false := decide_eq_false y78
            have x78 : (n = 1) = False := eq_false y78
            have z79 : decide (a = 4) = false := decide_eq_false (by omega)
            have x79 : (a = 4) = False := eq_false (by omega)
            simp [w, e9, e12, e14, knownO, is, q1, q2, q3, q4, q5, q6, q7, q8, q9, q10, q11, q12, x76, x77, x78, x79]
        · have z77 : decide (a = 3) = false := decide_eq_false y77
          have x77 : (a = 3) = False := eq_false y77
          by_cases y80 : a = 4
          · have z80 : decide (a = 4) = true := decide_eq_true y80
            have x80 : (a = 4) = True := eq_true y80
            simp [w, e9, e12, e14, knownO, is, q1, q2, q3, q4, q5, q6, q7, q8, q9, q10, q11, q12, x76, x77, x80]
          · have z80 : decide (a = 4) = false := decide_eq_false y80
            have x80 : (a = 4) = False := eq_false y80
            simp [w, e9, e12, e14, knownO, is, q1, q2, q3, q4, q5, q6, q7, q8, q9, q10, q11, q12, x76, x77, x80]
      · have z76 : decide (b = 0) = false := decide_eq_false y76
        have x76 : (b = 0) = False := eq_false y76
        simp [w, e9, e12, e14, knownO, is, q1, q2, q3, q4, q5, q6, q7, q8, q9, q10, q11, q12, x76]
  have k0 : decide (c = 0) = false := decide_eq_false (by omega)
  have k1 : decide (c = 1) = false := decide_eq_false (by omega)
  have hf : fieldO c = -1 := by simp [fieldO, hc0, hc1]
  simp [s6, W_drawB, boxOk, SOp.newBox, noFp, d0, d1, d2, d3, d4, d5, d6, d7, d8, d9, k0, k1]
  rcases hop with hop | hop | hop | hop | hop | hop | hop | hop | hop | hop | hop | hop
  · have q1 : decide (op = 1) = true := decide_eq_true hop
    have w : st0 op a 0 0 n = _ := (congrArg (fun op => st0 op a 0 0 n) hop).trans (o1 A0 A4 N0 N4)
    by_cases y81 : a = 0
    · have z81 : decide (a = 0) = true := decide_eq_true y81
      have x81 : (a = 0) = True := eq_true y81
      simp [w, e9, e12, e14, knownO, is, q1, x81]
    · have z81 : decide (a = 0) = false := decide_eq_false y81
      have x81 : (a = 0) = False := eq_false y81
      by_cases y82 : a = 1
      · have z82 : decide (a = 1) = true := decide_eq_true y82
        have x82 : (a = 1) = True := eq_true y82
        simp [w, e9, e12, e14, knownO, is, q1, x81, x82]
      · have z82 : decide (a = 1) = false := decide_eq_false y82
        have x82 : (a = 1) = False := eq_false y82
        simp [w, e9, e12, e14, knownO, is, q1, x81, x82]
  · have q2 : decide (op = 2) = true := decide_eq_true hop
    have q1 : decide (op = 1) = false := decide_eq_false (by omega)
    have w : st0 op a 0 0 0 = _ := (congrArg (fun op => st0 op a 0 0 0) hop).trans (o2 A0 A4)
    simp [w, e9, e12, e14, knownO, q1, q2]
  · have q3 : decide (op = 3) = true := decide_eq_true hop
    have q1 : decide (op = 1) = false := decide_eq_false (by omega)
    have q2 : decide (op = 2) = false := decide_eq_false (by omega)
    have w : st0 op a b 0 0 = _ := (congrArg (fun op => st0 op a b 0 0) hop).trans (o3 A0 A4 B0 B4)
    simp [w, e9, e12, e14, knownO, is, q1, q2, q3]
  · have q4 : decide (op = 4) = true := decide_eq_true hop
    have q1 : decide (op = 1) = false := decide_eq_false (by omega)
    have q2 : decide (op = 2) = false := decide_eq_false (by omega)
    have q3 : decide (op = 3) = false := decide_eq_false (by omega)
    have w : st0 op a b c n = _ := (congrArg (fun op => st0 op a b c n) hop).trans (o4 A0 A4 B0 B4 C0 C4 N0 N4)
    by_cases y83 : n ≥ 14
    · have z83 : decide (n ≥ 14) = true := decide_eq_true y83
      have x83 : (n ≥ 14) = True := eq_true y83
      by_cases y84 : n ≤ 18
      · have z84 : decide (n ≤ 18) = true := decide_eq_true y84
        have x84 : (n ≤ 18) = True := eq_true y84
        simp [w, e9, e12, e14, knownO, is, w4, hab, habc, q1, q2, q3, q4, x83, x84]
      · have z84 : decide (n ≤ 18) = false := decide_eq_false y84
        have x84 : (n ≤ 18) = False := eq_false y84
        by_cases y85 : n = 19
        · have z85 : decide (n = 19) = true := decide_eq_true y85
          have x85 : (n = 19) = True := eq_true y85
          by_cases y86 : a = 1
          · have z86 : decide (a = 1) = true := decide_eq_true y86
            have x86 : (a = 1) = True := eq_true y86
            simp [w, e9, e12, e14, knownO, is, w4, hbc, q1, q2, q3, q4, x83, x84, x85, x86]
          · have z86 : decide (a = 1) = false := decide_eq_false y86
            have x86 : (a = 1) = False := eq_false y86
            simp [w, e9, e12, e14, knownO, is, w4, q1, q2, q3, q4, x83, x84, x85, x86]
        · have z85 : decide (n = 19) = false := decide_eq_false y85
          have x85 : (n = 19) = False := eq_false y85
          by_cases y87 : n = 20
          · have z87 : decide (n = 20) = true := decide_eq_true y87
            have x87 : (n = 20) = True := eq_true y87
            by_cases y88 : a = 1
            · have z88 : decide (a = 1) = true := decide_eq_true y88
              have x88 : (a = 1) = True := eq_true y88
              simp [w, e9, e12, e14, knownO, is, w4, hbc, q1, q2, q3, q4, x83, x84, x85, x87, x88]
            · have z88 : decide (a = 1) = false := decide_eq_false y88
              have x88 : (a = 1) = False := eq_false y88
              simp [w, e9, e12, e14, knownO, is, w4, q1, q2, q3, q4, x83, x84, x85, x87, x88]
          · have z87 : decide (n = 20) = false := decide_eq_false y87
            have x87 : (n = 20) = False := eq_false y87
            by_cases y89 : n = 21
            · have z89 : decide (n = 21) = true := decide_eq_true y89
              have x89 : (n = 21) = True := eq_true y89
              by_cases y90 : a = 1
              · have z90 : decide (a = 1) = true := decide_eq_true y90
                have x90 : (a = 1) = True := eq_true y90
                simp [w, e9, e12, e14, knownO, is, w4, q1, q2, q3, q4, x83, x84, x85, x87, x89, x90]
              · have z90 : decide (a = 1) = false := decide_eq_false y90
                have x90 : (a = 1) = False := eq_false y90
                simp [w, e9, e12, e14, knownO, is, w4, q1, q2, q3, q4, x83, x84, x85, x87, x89, x90]
            · have z89 : decide (n = 21) = false := decide_eq_false y89
              have x89 : (n = 21) = False := eq_false y89
              by_cases y91 : n = 22
              · have z91 : decide (n = 22) = true := decide_eq_true y91
                have x91 : (n = 22) = True := eq_true y91
                by_cases y92 : a = 1
                · have z92 : decide (a = 1) = true := decide_eq_true y92
                  have x92 : (a = 1) = True := eq_true y92
                  simp [w, e9, e12, e14, knownO, is, w4, q1, q2, q3, q4, x83, x84, x85, x87, x89, x91, x92]
                · have z92 : decide (a = 1) = false := decide_eq_false y92
                  have x92 : (a = 1) = False := eq_false y92
                  simp [w, e9, e12, e14, knownO, is, w4, q1, q2, q3, q4, x83, x84, x85, x87, x89, x91, x92]
              · have z91 : decide (n = 22) = false := decide_eq_false y91
                have x91 : (n = 22) = False := eq_false y91
                by_cases y93 : n = 23
                · have z93 : decide (n = 23) = true := decide_eq_true y93
                  have x93 : (n = 23) = True := eq_true y93
                  by_cases y94 : a = 1
                  · have z94 : decide (a = 1) = true := decide_eq_true y94
                    have x94 : (a = 1) = True := eq_true y94
                    by_cases y95 : b = 1
                    · have z95 : decide (b = 1) = true := decide_eq_true y95
                      have x95 : (b = 1) = True := eq_true y95
                      simp [w, e9, e12, e14, knownO, is, w4, q1, q2, q3, q4, x83, x84, x85, x87, x89, x91, x93, x94, x95]
                    · have z95 : decide (b = 1) = false := decide_eq_false y95
                      have x95 : (b = 1) = False := eq_false y95
                      simp [w, e9, e12, e14, knownO, is, w4, q1, q2, q3, q4, x83, x84, x85, x87, x89, x91, x93, x94, x95]
                  · have z94 : decide (a = 1) = false := decide_eq_false y94
                    have x94 : (a = 1) = False := eq_false y94
                    simp [w, e9, e12, e14, knownO, is, w4, q1, q2, q3, q4, x83, x84, x85, x87, x89, x91, x93, x94]
                · have z93 : decide (n = 23) = false := decide_eq_false y93
                  have x93 : (n = 23) = False := eq_false y93
                  by_cases y96 : n = 24
                  · have z96 : decide (n = 24) = true := decide_eq_true y96
                    have x96 : (n = 24) = True := eq_true y96
                    by_cases y97 : a = 1
                    · have z97 : decide (a = 1) = true := decide_eq_true y97
                      have x97 : (a = 1) = True := eq_true y97
                      by_cases y98 : b = 1
                      · have z98 : decide (b = 1) = true := decide_eq_true y98
                        have x98 : (b = 1) = True := eq_true y98
                        simp [w, e9, e12, e14, knownO, is, w4, q1, q2, q3, q4, x83, x84, x85, x87, x89, x91, x93, x96, x97, x98]
                      · have z98 : decide (b = 1) = false := decide_eq_false y98
                        have x98 : (b = 1) = False := eq_false y98
                        simp [w, e9, e12, e14, knownO, is, w4, q1, q2, q3, q4, x83, x84, x85, x87, x89, x91, x93, x96, x97, x98]
                    · have z97 : decide (a = 1) = false := decide_eq_false y97
                      have x97 : (a = 1) = False := eq_false y97
                      simp [w, e9, e12, e14, knownO, is, w4, q1, q2, q3, q4, x83, x84, x85, x87, x89, x91, x93, x96, x97]
                  · have z96 : decide (n = 24) = false := decide_eq_false y96
                    have x96 : (n = 24) = False := eq_false y96
                    simp [w, e9, e12, e14, knownO, w4, q1, q2, q3, q4, x83, x84, x85, x87, x89, x91, x93, x96]
    · have z83 : decide (n ≥ 14) = false := decide_eq_false y83
      have x83 : (n ≥ 14) = False := eq_false y83
      have z99 : decide (n = 19) = false := decide_eq_false (by omega)
      have x99 : (n = 19) = False := eq_false (by omega)
      have z100 : decide (n = 20) = false := decide_eq_false (by omega)
      have x100 : (n = 20) = False := eq_false (by omega)
      have z101 : decide (n = 21) = false := decide_eq_false (by omega)
      have x101 : (n = 21) = False := eq_false (by omega)
      have z102 : decide (n = 22) = false := decide_eq_false (by omega)
      have x102 : (n = 22) = False := eq_false (by omega)
      have z103 : decide (n = 23) = false := decide_eq_false (by omega)
      have x103 : (n = 23) = False := eq_false (by omega)
      have z104 : decide (n = 24) = false := decide_eq_false (by omega)
      have x104 : (n = 24) = False := eq_false (by omega)
      simp [w, e9, e12, e14, knownO, w4, q1, q2, q3, q4, x83, x99, x100, x101, x102, x103, x104]
  · have q5 : decide (op = 5) = true := decide_eq_true hop
    have q1 : decide (op = 1) = false := decide_eq_false (by omega)
    have q2 : decide (op = 2) = false := decide_eq_false (by omega)
    have q3 : decide (op = 3) = false := decide_eq_false (by omega)
    have q4 : decide (op = 4) = false := decide_eq_false (by omega)
    have w : st0 op a b 0 n = _ := (congrArg (fun op => st0 op a b 0 n) hop).trans (o5 A0 A4 B0 B4 N0 N4)
    by_cases y105 : n = 12
    · have z105 : decide (n = 12) = true := decide_eq_true y105
      have x105 : (n = 12) = True := eq_true y105
      by_cases y106 : a + b = 0
      · have z106 : decide (a + b = 0) = true := decide_eq_true y106
        have x106 : (a + b = 0) = True := eq_true y106
        simp [w, e9, e12, e14, knownO, is, hab, q1, q2, q3, q4, q5, x105, x106]
      · have z106 : decide (a + b = 0) = false := decide_eq_false y106
        have x106 : (a + b = 0) = False := eq_false y106
        have z107 : decide (n = 13) = false := decide_eq_false (by omega)
        have x107 : (n = 13) = False := eq_false (by omega)
        simp [w, e9, e12, e14, knownO, is, hab, q1, q2, q3, q4, q5, x105, x106, x107]
    · have z105 : decide (n = 12) = false := decide_eq_false y105
      have x105 : (n = 12) = False := eq_false y105
      by_cases y108 : n = 13
      · have z108 : decide (n = 13) = true := decide_eq_true y108
        have x108 : (n = 13) = True := eq_true y108
        by_cases y109 : a = 1
        · have z109 : decide (a = 1) = true := decide_eq_true y109
          have x109 : (a = 1) = True := eq_true y109
          simp [w, e9, e12, e14, knownO, is, q1, q2, q3, q4, q5, x105, x108, x109]
        · have z109 : decide (a = 1) = false := decide_eq_false y109
          have x109 : (a = 1) = False := eq_false y109
          simp [w, e9, e12, e14, knownO, is, q1, q2, q3, q4, q5, x105, x108, x109]
      · have z108 : decide (n = 13) = false := decide_eq_false y108
        have x108 : (n = 13) = False := eq_false y108
        simp [w, e9, e12, e14, knownO, is, q1, q2, q3, q4, q5, x105, x108]
  · have q6 : decide (op = 6) = true := decide_eq_true hop
    have q1 : decide (op = 1) = false := decide_eq_false (by omega)
    have q2 : decide (op = 2) = false := decide_eq_false (by omega)
    have q3 : decide (op = 3) = false := decide_eq_false (by omega)
    have q4 : decide (op = 4) = false := decide_eq_false (by omega)
    have q5 : decide (op = 5) = false := decide_eq_false (by omega)
    have w : st0 op a b c 0 = _ := (congrArg (fun op => st0 op a b c 0) hop).trans (o6 A0 A4 B0 B4 C0 C4)
    by_cases y110 : b = 2
    · have z110 : decide (b = 2) = true := decide_eq_true y110
      have x110 : (b = 2) = True := eq_true y110
      simp [w, e9, e12, e14, knownO, is, hf, q1, q2, q3, q4, q5, q6, x110]
    · have z110 : decide (b = 2) = false := decide_eq_false y110
      have x110 : (b = 2) = False := eq_false y110
      simp [w, e9, e12, e14, knownO, is, hf, q1, q2, q3, q4, q5, q6, x110]
  · have q7 : decide (op = 7) = true := decide_eq_true hop
    have q1 : decide (op = 1) = false := decide_eq_false (by omega)
    have q2 : decide (op = 2) = false := decide_eq_false (by omega)
    have q3 : decide (op = 3) = false := decide_eq_false (by omega)
    have q4 : decide (op = 4) = false := decide_eq_false (by omega)
    have q5 : decide (op = 5) = false := decide_eq_false (by omega)
    have q6 : decide (op = 6) = false := decide_eq_false (by omega)
    have w : st0 op a b c 0 = _ := (congrArg (fun op => st0 op a b c 0) hop).trans (o7 A0 A4 B0 B4 C0 C4)
    by_cases y111 : a = 2
    · have z111 : decide (a = 2) = true := decide_eq_true y111
      have x111 : (a = 2) = True := eq_true y111
      simp [w, e9, e12, e14, knownO, is, hf, q1, q2, q3, q4, q5, q6, q7, x111]
    · have z111 : decide (a = 2) = false := decide_eq_false y111
      have x111 : (a = 2) = False := eq_false y111
      simp [w, e9, e12, e14, knownO, is, hf, q1, q2, q3, q4, q5, q6, q7, x111]
  · have q8 : decide (op = 8) = true := decide_eq_true hop
    have q1 : decide (op = 1) = false := decide_eq_false (by omega)
    have q2 : decide (op = 2) = false := decide_eq_false (by omega)
    have q3 : decide (op = 3) = false := decide_eq_false (by omega)
    have q4 : decide (op = 4) = false := decide_eq_false (by omega)
    have q5 : decide (op = 5) = false := decide_eq_false (by omega)
    have q6 : decide (op = 6) = false := decide_eq_false (by omega)
    have q7 : decide (op = 7) = false := decide_eq_false (by omega)
    have w : st0 op a b c 0 = _ := (congrArg (fun op => st0 op a b c 0) hop).trans (o8 A0 A4 B0 B4 C0 C4)
    by_cases y112 : c = 0
    · have z112 : decide (c = 0) = true := decide_eq_true y112
      have x112 : (c = 0) = True := eq_true y112
      have h5 : b = 0 ∨ b = 1 ∨ b = 2 ∨ b = 3 ∨ b = 4 := by omega
      rcases h5 with rfl | rfl | rfl | rfl | rfl <;> simp [w, e9, e12, e14, knownO, is, itemO, q1, q2, q3, q4, q5, q6, q7, q8, x112]
    · have z112 : decide (c = 0) = false := decide_eq_false y112
      have x112 : (c = 0) = False := eq_false y112
      simp [w, e9, e12, e14, knownO, is, itemO, q1, q2, q3, q4, q5, q6, q7, q8, x112]
  · have q9 : decide (op = 9) = true := decide_eq_true hop
    have q1 : decide (op = 1) = false := decide_eq_false (by omega)
    have q2 : decide (op = 2) = false := decide_eq_false (by omega)
    have q3 : decide (op = 3) = false := decide_eq_false (by omega)
    have q4 : decide (op = 4) = false := decide_eq_false (by omega)
    have q5 : decide (op = 5) = false := decide_eq_false (by omega)
    have q6 : decide (op = 6) = false := decide_eq_false (by omega)
    have q7 : decide (op = 7) = false := decide_eq_false (by omega)
    have q8 : decide (op = 8) = false := decide_eq_false (by omega)
    have w : st0 op a b c 0 = _ := (congrArg (fun op => st0 op a b c 0) hop).trans (o9 A0 A4 B0 B4 C0 C4)
    by_cases y113 : b = 0
    · have z113 : decide (b = 0) = true := decide_eq_true y113
      have x113 : (b = 0) = True := eq_true y113
      have h5 : a = 0 ∨ a = 1 ∨ a = 2 ∨ a = 3 ∨ a = 4 := by omega
      rcases h5 with rfl | rfl | rfl | rfl | rfl <;> simp [w, e9, e12, e14, knownO, is, itemO, q1, q2, q3, q4, q5, q6, q7, q8, q9, x113]
    · have z113 : decide (b = 0) = false := decide_eq_false y113
      have x113 : (b = 0) = False := eq_false y113
      simp [w, e9, e12, e14, knownO, is, itemO, q1, q2, q3, q4, q5, q6, q7, q8, q9, x113]
  · have q10 : decide (op = 10) = true := decide_eq_true hop
    have q1 : decide (op = 1) = false := decide_eq_false (by omega)
    have q2 : decide (op = 2) = false := decide_eq_false (by omega)
    have q3 : decide (op = 3) = false := decide_eq_false (by omega)
    have q4 : decide (op = 4) = false := decide_eq_false (by omega)
    have q5 : decide (op = 5) = false := decide_eq_false (by omega)
    have q6 : decide (op = 6) = false := decide_eq_false (by omega)
    have q7 : decide (op = 7) = false := decide_eq_false (by omega)
    have q8 : decide (op = 8) = false := decide_eq_false (by omega)
    have q9 : decide (op = 9) = false := decide_eq_false (by omega)
    have w : st0 op a b 0 0 = _ := (congrArg (fun op => st0 op a b 0 0) hop).trans (o10 A0 A4 B0 B4)
    by_cases y114 : a = 0
    · have z114 : decide (a = 0) = true := decide_eq_true y114
      have x114 : (a = 0) = True := eq_true y114
      simp [w, e9, e12, e14, knownO, is, q1, q2, q3, q4, q5, q6, q7, q8, q9, q10, x114]
    · have z114 : decide (a = 0) = false := decide_eq_false y114
      have x114 : (a = 0) = False := eq_false y114
      simp [w, e9, e12, e14, knownO, is, q1, q2, q3, q4, q5, q6, q7, q8, q9, q10, x114]
  · have q11 : decide (op = 11) = true := decide_eq_true hop
    have q1 : decide (op = 1) = false := decide_eq_false (by omega)
    have q2 : decide (op = 2) = false := decide_eq_false (by omega)
    have q3 : decide (op = 3) = false := decide_eq_false (by omega)
    have q4 : decide (op = 4) = false := decide_eq_false (by omega)
    have q5 : decide (op = 5) = false := decide_eq_false (by omega)
    have q6 : decide (op = 6) = false := decide_eq_false (by omega)
    have q7 : decide (op = 7) = false := decide_eq_false (by omega)
    have q8 : decide (op = 8) = false := decide_eq_false (by omega)
    have q9 : decide (op = 9) = false := decide_eq_false (by omega)
    have q10 : decide (op = 10) = false := decide_eq_false (by omega)
    have w : st0 op a 0 0 n = _ := (congrArg (fun op => st0 op a 0 0 n) hop).trans (o11 A0 A4 N0 N4)
    by_cases y115 : a = 2
    · have z115 : decide (a = 2) = true := decide_eq_true y115
      have x115 : (a = 2) = True := eq_true y115
      simp [w, e9, e12, e14, knownO, is, q1, q2, q3, q4, q5, q6, q7, q8, q9, q10, q11, x115]
    · have z115 : decide (a = 2) = false := decide_eq_false y115
      have x115 : (a = 2) = False := eq_false y115
      simp [w, e9, e12, e14, knownO, is, q1, q2, q3, q4, q5, q6, q7, q8, q9, q10, q11, x115]
  · have q12 : decide (op = 12) = true := decide_eq_true hop
    have q1 : decide (op = 1) = false := decide_eq_false (by omega)
    have q2 : decide (op = 2) = false := decide_eq_false (by omega)
    have q3 : decide (op = 3) = false := decide_eq_false (by omega)
    have q4 : decide (op = 4) = false := decide_eq_false (by omega)
    have q5 : decide (op = 5) = false := decide_eq_false (by omega)
    have q6 : decide (op = 6) = false := decide_eq_false (by omega)
    have q7 : decide (op = 7) = false := decide_eq_false (by omega)
    have q8 : decide (op = 8) = false := decide_eq_false (by omega)
    have q9 : decide (op = 9) = false := decide_eq_false (by omega)
    have q10 : decide (op = 10) = false := decide_eq_false (by omega)
    have q11 : decide (op = 11) = false := decide_eq_false (by omega)
    have w : st0 op a b 0 n = _ := (congrArg (fun op => st0 op a b 0 n) hop).trans (o12 A0 A4 B0 B4 N0 N4)
    by_cases y116 : b = 0
    · have z116 : decide (b = 0) = true := decide_eq_true y116
      have x116 : (b = 0) = True := eq_true y116
      by_cases y117 : a = 3
      · have z117 : decide (a = 3) = true := decide_eq_true y117
        have x117 : (a = 3) = True := eq_true y117
        by_cases y118 : n = 1
        · have z118 : decide (n = 1) = true := decide_eq_true y118
          have x118 : (n = 1) = True := eq_true y118
          simp [w, e9, e12, e14, knownO, is, q1, q2, q3, q4, q5, q6, q7, q8, q9, q10, q11, q12, x116, x117, x118]
        · have z118 : decide (n = 1) = false := decide_eq_false y118
          have x118 : (n = 1) = False := eq_false y118
          have z119 : decide (a = 4) = false := decide_eq_false (by omega)
          have x119 : (a = 4) = False := eq_false (by omega)
          simp [w, e9, e12, e14, knownO, is, q1, q2, q3, q4, q5, q6, q7, q8, q9, q10, q11, q12, x116, x117, x118, x119]
      · have z117 : decide (a = 3) = false := decide_eq_false y117
        have x117 : (a = 3) = False := eq_false y117
        by_cases y120 : a = 4
        · have z120 : decide (a = 4) = true := decide_eq_true y120
          have x120 : (a = 4) = True := eq_true y120
          simp [w, e9, e12, e14, knownO, is, q1, q2, q3, q4, q5, q6, q7, q8, q9, q10, q11, q12, x116, x117, x120]
        · have z120 : decide (a = 4) = false := decide_eq_false y120
          have x120 : (a = 4) = False := eq_false y120
          simp [w, e9, e12, e14, knownO, is, q1, q2, q3, q4, q5, q6, q7, q8, q9, q10, q11, q12, x116, x117, x120]
    · have z116 : decide (b = 0) = false := decide_eq_false y116
      have x116 : (b = 0) = False := eq_false y116
      simp [w, e9, e12, e14, knownO, is, q1, q2, q3, q4, q5, q6, q7, q8, q9, q10, q11, q12, x116]
end U12
